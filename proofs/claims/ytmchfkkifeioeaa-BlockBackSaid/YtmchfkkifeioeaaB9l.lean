/- The sanity check; the walk of BlockPuts. -/
import Derived.Test.YtmchfkkifeioeaaB9q
import Derived.Test.YtmchfkkifeioeaaB9b
import Derived.Test.YtmchfkkifeioeaaB9c
import Derived.Test.YtmchfkkifeioeaaEq9
namespace Go.Proofs.Ytmchfkkifeioeaa
open Go.RowKit Bt

/-- what Take reads of the bits L from bit pos on -/
def tkB (L : List Nat) (pos : Nat) (fr : Int) : List Int × Int × Nat := if fr = 0 ∨ fr = 1 then btk L 65 pos fr.toNat zeros else (zeros, 1, pos)
theorem tkB_t {L : List Nat} {pos : Nat} {fr : Int} (h : fr = 0 ∨ fr = 1) : tkB L pos fr = btk L 65 pos fr.toNat zeros := if_pos h
theorem tkB_f {L : List Nat} {pos : Nat} {fr : Int} (h : ¬ (fr = 0 ∨ fr = 1)) : tkB L pos fr = (zeros, 1, pos) := if_neg h
theorem tkB_len (L : List Nat) (pos : Nat) (fr : Int) : (tkB L pos fr).1.length = 64 := by
  unfold tkB; split
  · exact btk_len _ _ _ _ _ zeros_length
  · exact zeros_length
theorem tkB_pos {L : List Nat} {pos : Nat} (fr : Int) (h : pos ≤ L.length) : (tkB L pos fr).2.2 ≤ L.length := by
  unfold tkB; split
  · exact btk_pos _ _ _ _ _ h
  · exact h
theorem btake_any (w : World) {g : Nat} {v : Value} {p : List Nat} {en at_ : Nat} {TB : List (Nat × Obj)} (F : RF v p en TB) (ha : at_ ≤ en) (hT : Mem (fun k => k ∈ (rT g v en at_ TB).map (·.1)) w w (rT g v en at_ TB)) (fr : Int) : UpdRow Try.prog 18 #[.pointer (some ⟨g, 0, none⟩), .int .i64 fr] w (rT g v en at_ TB) (fun r T' => r = .tuple #[.agg (iv (tkB ((unpack p).take en) at_ fr).1), .int .i64 (tkB ((unpack p).take en) at_ fr).2.1] ∧ T' = rT g v en (tkB ((unpack p).take en) at_ fr).2.2 TB) := by
  by_cases h : fr = 0 ∨ fr = 1
  · obtain ⟨f, rfl⟩ := Int.eq_ofNat_of_zero_le (show 0 ≤ fr by omega)
    rw [tkB_t h, Int.toNat_natCast]
    exact btake_walk w F ha hT f (by omega)
  · rw [tkB_f h]
    exact (btake_arg w g fr h).mono fun e w' ⟨he, hb⟩ => ⟨_, _, he, ⟨rfl, rfl⟩, hT.below hb⟩
theorem qbtk_any (w : World) {g : Nat} {l : List Nat} {at_ : Nat} {T : List (Nat × Obj)} (hO : OwnQ g l at_ T) (hT : Mem (fun k => k ∈ T.map (·.1)) w w T) (fr : Int) : UpdRow Try.prog 19 #[.pointer (some ⟨g, 0, none⟩), .int .i64 fr] w T (fun r T' => r = .tuple #[.agg (iv (tkB l at_ fr).1), .int .i64 (tkB l at_ fr).2.1] ∧ OwnQ g l (tkB l at_ fr).2.2 T') := by
  by_cases h : fr = 0 ∨ fr = 1
  · obtain ⟨f, rfl⟩ := Int.eq_ofNat_of_zero_le (show 0 ≤ fr by omega)
    rw [tkB_t h, Int.toNat_natCast]
    exact qbtk_walk w hO hT f (by omega)
  · rw [tkB_f h]
    exact (qbtk_arg w g fr h).mono fun e w' ⟨he, hb⟩ => ⟨_, T, he, ⟨rfl, hO⟩, hT.below hb⟩
theorem zeros_at (p : Nat) (h : p < 64) : zeros.getD p 0 = 0 := tab_getD _ _ _ h
theorem bcode_zeros : ∀ n at_ p, p + n ≤ 64 → bcode zeros n at_ p = codeN 0 := by
  intro n
  induction n with
  | zero => intro _ _ _; rfl
  | succ n ih => intro at_ p h; rw [bcode_zero (zeros_at p (by omega))]; exact ih _ _ (by omega)
theorem aw_code (f : Nat) (hf : f ≤ 1) : bE zeros f = 0 ∧ bC zeros f = codeN 0 := by
  obtain ⟨h1, h2⟩ := bE_ok (x := zeros) hf (okB_t (fun i h1 h2 => by rw [zeros_at i h1]; decide))
  exact ⟨h1, by rw [h2]; exact bcode_zeros _ _ _ (by omega)⟩
theorem len0 : (codeN 0).length = 1 := by decide +kernel
set_option maxHeartbeats 4000000 in
set_option maxRecDepth 100000 in
theorem awake_walk (w : World) : Calls Try.prog 12 #[] w fun e w' => e = .returned (.bool true) ∧ Below w.heap.size w w' := by
  refine calls_of_wp Try.func12 rfl ?_
  refine wp_frame (a' := ⟨#[undef, undef, undef, undef, undef, undef, undef, undef, undef, undef, undef, undef, undef, undef, undef, undef, undef, undef, undef], []⟩) (by kernel_rfl) ?_
  have M0 : Mem NoS w w [] := Mem.start _ _
  refine wp_seq_k (fun K1 hK1 => ?_)
  refine wl_region ?_
  refine st_val (.bool false) (by kernel_rfl) (by kernel_rfl) ?_
  refine wl_nil ?_
  refine hK1 _ _ ?_
  try clear hK1 K1
  refine wp_seq_k (fun K2 hK2 => ?_)
  refine wl_region ?_
  refine st_callR (A := []) (B := []) M0 (by kernel_rfl) (run_value_call 8 #[] _ rfl Try.func8 (by kernel_rfl) (by kernel_rfl) _ (by kernel_rfl)) (newWriterM w) ?_
  intro v3 T4 W5 O6 M7
  have M7 : Mem NoS w W5 ((T4 ++ [])) := M7
  obtain ⟨g8, rfl, O9⟩ := O6
  refine st_val (.pointer (some ⟨g8, 0, none⟩)) (by kernel_rfl) (by kernel_rfl) ?_
  refine wl_nil ?_
  refine hK2 _ _ ?_
  try clear hK2 K2
  refine wp_seq_k (fun K10 hK10 => ?_)
  refine wl_region ?_
  refine st_val (.pointer (some ⟨g8, 0, none⟩)) (by kernel_rfl) (by kernel_rfl) ?_
  refine st_val (.agg (iv zeros)) (by kernel_rfl) (by kernel_rfl) ?_
  refine st_callU (A := []) (T := T4) (B := []) M7 (by kernel_rfl) (run_value_call 9 #[(Operand.tmp 4), (Operand.tmp 5), (Operand.const (Value.int IntKind.i64 0))] _ rfl Try.func9 (by kernel_rfl) (by kernel_rfl) _ (by kernel_rfl)) (bput_any W5 O9 (Mem.part (A := []) (T := T4) (B := []) M7) (by first | omega | (simp only [List.length_append, List.length_nil, bitsOf_length]; omega)) zeros zeros_length 0) ?_
  intro v11 T12 W13 O14 M15
  obtain ⟨rfl, O16⟩ := O14
  have M17 : Mem NoS w W13 ((T12 ++ [])) := M15
  refine st_val (.int .i64 (bE zeros 0)) (by kernel_rfl) (by kernel_rfl) ?_
  refine wl_nil ?_
  refine hK10 _ _ ?_
  try clear hK10 K10
  refine wp_seq_k (fun K18 hK18 => ?_)
  refine wl_region ?_
  refine st_val (.int .i64 (bE zeros 0)) (by kernel_rfl) (by kernel_rfl) ?_
  refine st_val (.bool true) (by kernel_rfl) (bool_of (dec_t (show (bE zeros 0 : Int) = 0 from (aw_code 0 (by omega)).1)) (by kernel_rfl)) ?_
  refine st_val (.bool true) (by kernel_rfl) (by kernel_rfl) ?_
  refine st_val (.pointer (some ⟨g8, 0, none⟩)) (by kernel_rfl) (by kernel_rfl) ?_
  refine st_callE (.int .i64 ((([] ++ bC zeros 0).length : Nat) : Int)) (by kernel_rfl) (args := #[.pointer (some ⟨g8, 0, none⟩)]) (run_value_call 21 #[(Operand.tmp 10)] _ rfl Try.func21 (by kernel_rfl) (by kernel_rfl) _ (by kernel_rfl)) (wLenM W13 O16 (Mem.part (A := []) (T := T12) (B := []) M17)) ?_
  refine st_val (.bool true) (by kernel_rfl) (bool_of (dec_t (show (((([] ++ bC zeros 0).length : Nat) : Int) : Int) = 1 from (by rw [List.nil_append, show bC zeros 0 = codeN 0 from (aw_code 0 (by omega)).2, len0]; rfl))) (by kernel_rfl)) ?_
  refine st_val (.bool true) (by kernel_rfl) (by kernel_rfl) ?_
  refine st_val (.bool true) (by kernel_rfl) (by kernel_rfl) ?_
  refine st_val (.agg (iv zeros)) (by kernel_rfl) (by kernel_rfl) ?_
  refine st_callB M17 (.int .i64 (((bC zeros 1).length : Nat) : Int)) (by kernel_rfl) (args := #[.agg (iv zeros), .int .i64 1]) (run_value_call 11 #[(Operand.tmp 15), (Operand.const (Value.int IntKind.i64 1))] _ rfl Try.func11 (by kernel_rfl) (by kernel_rfl) _ (by kernel_rfl)) (bbits_any W13 zeros zeros_length 1) ?_
  intro W19 M20
  refine st_val (.bool true) (by kernel_rfl) (bool_of (dec_t (show ((((bC zeros 1).length : Nat) : Int) : Int) = 1 from (by rw [show bC zeros 1 = codeN 0 from (aw_code 1 (by omega)).2, len0]; rfl))) (by kernel_rfl)) ?_
  refine st_val (.bool true) (by kernel_rfl) (by kernel_rfl) ?_
  refine st_val (.bool true) (by kernel_rfl) (by kernel_rfl) ?_
  refine wl_nil ?_
  refine hK18 _ _ ?_
  try clear hK18 K18
  refine wp_frame (a' := ⟨#[.bool true, .pointer (some ⟨g8, 0, none⟩), .int .i64 (bE zeros 0), .pointer (some ⟨g8, 0, none⟩), .pointer (some ⟨g8, 0, none⟩), .agg (iv zeros), .int .i64 (bE zeros 0), .int .i64 (bE zeros 0), .bool true, .bool true, .pointer (some ⟨g8, 0, none⟩), .int .i64 ((([] ++ bC zeros 0).length : Nat) : Int), .bool true, .bool true, .bool true, .agg (iv zeros), .int .i64 (((bC zeros 1).length : Nat) : Int), .bool true, .bool true], []⟩) (by kernel_rfl) ?_
  refine wp_ret ?_
  exact done1 0 (.bool true) (by kernel_rfl) (by kernel_rfl) (by kernel_rfl) ⟨rfl, M20.toBelow⟩
set_option maxHeartbeats 4000000 in
set_option maxRecDepth 100000 in
theorem BlockPuts_walk (w : World) (v : Value) (l : List Int) (hr : RdK w v l.length (i64s l)) (hb : ∀ x ∈ l, -9223372036854775808 ≤ x ∧ x ≤ 9223372036854775807) (fr : Int) (hfr : -9223372036854775808 ≤ fr ∧ fr ≤ 9223372036854775807) : Calls Try.prog 3 #[v, .int .i64 fr] w fun e w' => e = .returned (.bool true) ∧ Below w.heap.size w w' := by
  obtain ⟨A, c, rfl, hc⟩ := hr.shape
  refine calls_of_wp Try.func3 rfl ?_
  refine wp_frame (a' := ⟨#[.slice A l.length c, .int .i64 fr, undef, undef, undef, undef, undef, undef, undef, undef, undef, undef, undef, undef, undef, undef, undef, undef, undef, undef, undef, undef, undef, undef, undef, undef, undef, undef, undef, undef, undef, undef, undef, undef, undef, undef, undef, undef, undef, undef, undef, undef, undef, undef, undef, undef, undef, undef, undef, undef, undef, undef], []⟩) (by kernel_rfl) ?_
  have M0 : Mem NoS w w [] := Mem.start _ _
  refine wp_seq_k (fun K1 hK1 => ?_)
  refine wl_region ?_
  refine st_val (.bool false) (by kernel_rfl) (by kernel_rfl) ?_
  refine wl_nil ?_
  refine hK1 _ _ ?_
  try clear hK1 K1
  refine wp_seq_k (fun K2 hK2 => ?_)
  refine wl_region ?_
  refine st_val (.slice A l.length c) (by kernel_rfl) (by kernel_rfl) ?_
  refine st_callB M0 (.agg (iv (lvl l))) (by kernel_rfl) (args := #[.slice A l.length c]) (run_value_call 7 #[(Operand.tmp 10)] _ rfl Try.func7 (by kernel_rfl) (by kernel_rfl) _ (by kernel_rfl)) (levels_walk w (.slice A l.length c) l (hr.keep M0.keep (fun _ _ h => h))) ?_
  intro W3 M4
  refine st_alloc M4 (.cells (iv zeros) 23 (0, 0)) (by kernel_rfl) (by kernel_rfl) ?_
  intro g5 W6 M7
  refine st_storeRow M7 0 rfl 23 (.tmp 5) (.tmp 11) (by rfl) (iv (lvl l)) (by kernel_rfl) (by kernel_rfl) (info64 _ (lvl_length _)) (iv_same (lvl_length _) zeros_length) (iv_one _) (by kernel_rfl) [(g5, .cells (iv (lvl l)) 23 (0, 0))] rfl ?_
  intro W8 M9
  refine wl_nil ?_
  refine hK2 _ _ ?_
  try clear hK2 K2
  refine wp_seq_k (fun K10 hK10 => ?_)
  refine wl_region ?_
  refine st_callR (A := [(g5, .cells (iv (lvl l)) 23 (0, 0))]) (B := []) M9 (by kernel_rfl) (run_value_call 8 #[] _ rfl Try.func8 (by kernel_rfl) (by kernel_rfl) _ (by kernel_rfl)) (newWriterM W8) ?_
  intro v11 T12 W13 O14 M15
  have M15 : Mem NoS w W13 ((g5, .cells (iv (lvl l)) 23 (0, 0)) :: (T12 ++ [])) := M15
  obtain ⟨g16, rfl, O17⟩ := O14
  refine st_val (.pointer (some ⟨g16, 0, none⟩)) (by kernel_rfl) (by kernel_rfl) ?_
  refine wl_nil ?_
  refine hK10 _ _ ?_
  try clear hK10 K10
  refine wp_seq_k (fun K18 hK18 => ?_)
  refine wl_region ?_
  refine st_val (.pointer (some ⟨g16, 0, none⟩)) (by kernel_rfl) (by kernel_rfl) ?_
  refine st_val (.agg (iv (lvl l))) (by kernel_rfl) (run_load_row 23 (.tmp 5) rfl g5 (by kernel_rfl) 23 (iv (lvl l)) (0, 0) _ (M15.get 0 rfl) Try.underlying23 rfl (info64 _ (lvl_length _))) ?_
  refine st_val (.int .i64 fr) (by kernel_rfl) (by kernel_rfl) ?_
  refine st_callU (A := [(g5, .cells (iv (lvl l)) 23 (0, 0))]) (T := T12) (B := []) M15 (by kernel_rfl) (run_value_call 9 #[(Operand.tmp 13), (Operand.tmp 14), (Operand.tmp 15)] _ rfl Try.func9 (by kernel_rfl) (by kernel_rfl) _ (by kernel_rfl)) (bput_any W13 O17 (Mem.part (A := [(g5, .cells (iv (lvl l)) 23 (0, 0))]) (T := T12) (B := []) M15) (by first | omega | (simp only [List.length_append, List.length_nil, bitsOf_length]; omega)) (lvl l) (lvl_length _) fr) ?_
  intro v19 T20 W21 O22 M23
  obtain ⟨rfl, O24⟩ := O22
  have M25 : Mem NoS w W21 ((g5, .cells (iv (lvl l)) 23 (0, 0)) :: (T20 ++ [])) := M23
  refine st_val (.int .i64 (bE (lvl l) fr)) (by kernel_rfl) (by kernel_rfl) ?_
  refine wl_nil ?_
  refine hK18 _ _ ?_
  try clear hK18 K18
  refine wp_seq_k (fun K26 hK26 => ?_)
  refine wl_region ?_
  refine st_val (.agg (iv (lvl l))) (by kernel_rfl) (run_load_row 23 (.tmp 5) rfl g5 (by kernel_rfl) 23 (iv (lvl l)) (0, 0) _ (M25.get 0 rfl) Try.underlying23 rfl (info64 _ (lvl_length _))) ?_
  refine st_val (.int .i64 fr) (by kernel_rfl) (by kernel_rfl) ?_
  refine st_callR (A := [(g5, .cells (iv (lvl l)) 23 (0, 0))]) (B := (T20 ++ [])) M25 (by kernel_rfl) (run_value_call 10 #[(Operand.tmp 18), (Operand.tmp 19)] _ rfl Try.func10 (by kernel_rfl) (by kernel_rfl) _ (by kernel_rfl)) (rcode_any W21 (lvl l) (lvl_length _) fr) ?_
  intro v27 T28 W29 O30 M31
  have M31 : Mem NoS w W29 ((g5, .cells (iv (lvl l)) 23 (0, 0)) :: (T28 ++ (T20 ++ []))) := M31
  obtain ⟨v32, m33, rfl, hm34, O35⟩ := O30
  obtain ⟨A36, cq37, rfl, hc38⟩ := O35.shape
  refine st_val (.tuple #[.slice A36 m33 cq37, .int .i64 (bE (lvl l) fr)]) (by kernel_rfl) (by kernel_rfl) ?_
  refine st_val (.slice A36 m33 cq37) (by kernel_rfl) (by kernel_rfl) ?_
  refine st_val (.int .i64 (bE (lvl l) fr)) (by kernel_rfl) (by kernel_rfl) ?_
  refine st_val (.slice A36 m33 cq37) (by kernel_rfl) (by kernel_rfl) ?_
  refine st_val (.int .i64 (bE (lvl l) fr)) (by kernel_rfl) (by kernel_rfl) ?_
  refine wl_nil ?_
  refine hK26 _ _ ?_
  try clear hK26 K26
  refine wp_frame (a' := ⟨#[.slice A l.length c, .int .i64 fr, undef, undef, .bool false, .pointer (some ⟨g5, 0, none⟩), .pointer (some ⟨g16, 0, none⟩), .int .i64 (bE (lvl l) fr), .slice A36 m33 cq37, .int .i64 (bE (lvl l) fr), .slice A l.length c, .agg (iv (lvl l)), .pointer (some ⟨g16, 0, none⟩), .pointer (some ⟨g16, 0, none⟩), .agg (iv (lvl l)), .int .i64 fr, .int .i64 (bE (lvl l) fr), .tuple #[.slice A36 m33 cq37, .int .i64 (bE (lvl l) fr)], .agg (iv (lvl l)), .int .i64 fr, .tuple #[.slice A36 m33 cq37, .int .i64 (bE (lvl l) fr)], .slice A36 m33 cq37, .int .i64 (bE (lvl l) fr), undef, undef, undef, undef, undef, undef, undef, undef, undef, undef, undef, undef, undef, undef, undef, undef, undef, undef, undef, undef, undef, undef, undef, undef, undef, undef, undef, undef, undef], []⟩) (by kernel_rfl) ?_
  refine wp_seq_k (fun K39 hK39 => ?_)
  refine wp_seq_k (fun K40 hK40 => ?_)
  refine wl_region ?_
  refine st_val (.int .i64 (bE (lvl l) fr)) (by kernel_rfl) (by kernel_rfl) ?_
  refine st_val (.int .i64 (bE (lvl l) fr)) (by kernel_rfl) (by kernel_rfl) ?_
  refine st_val (.bool false) (by kernel_rfl) (bool_of (neq_f (show (bE (lvl l) fr : Int) = bE (lvl l) fr from rfl)) (by kernel_rfl)) ?_
  refine st_val (.bool false) (by kernel_rfl) (by kernel_rfl) ?_
  refine st_val (.agg (iv (lvl l))) (by kernel_rfl) (run_load_row 23 (.tmp 5) rfl g5 (by kernel_rfl) 23 (iv (lvl l)) (0, 0) _ (M31.get 0 rfl) Try.underlying23 rfl (info64 _ (lvl_length _))) ?_
  refine st_val (.int .i64 fr) (by kernel_rfl) (by kernel_rfl) ?_
  refine st_callB M31 (.int .i64 (((bC (lvl l) fr).length : Nat) : Int)) (by kernel_rfl) (args := #[.agg (iv (lvl l)), .int .i64 fr]) (run_value_call 11 #[(Operand.tmp 27), (Operand.tmp 28)] _ rfl Try.func11 (by kernel_rfl) (by kernel_rfl) _ (by kernel_rfl)) (bbits_any W29 (lvl l) (lvl_length _) fr) ?_
  intro W41 M42
  refine st_val (.slice A36 m33 cq37) (by kernel_rfl) (by kernel_rfl) ?_
  refine st_val (.int .i64 ((m33 : Nat) : Int)) (by kernel_rfl) (by kernel_rfl) ?_
  refine st_val (.bool false) (by kernel_rfl) (bool_of (neq_f (show ((((bC (lvl l) fr).length : Nat) : Int) : Int) = ((m33 : Nat) : Int) from (by rw [hm34]))) (by kernel_rfl)) ?_
  refine st_val (.bool false) (by kernel_rfl) (by kernel_rfl) ?_
  refine st_val (.bool false) (by kernel_rfl) (by kernel_rfl) ?_
  refine st_val (.agg (iv (lvl l))) (by kernel_rfl) (run_load_row 23 (.tmp 5) rfl g5 (by kernel_rfl) 23 (iv (lvl l)) (0, 0) _ (M42.get 0 rfl) Try.underlying23 rfl (info64 _ (lvl_length _))) ?_
  refine st_val (.int .i64 fr) (by kernel_rfl) (by kernel_rfl) ?_
  refine st_callB M42 (.int .i64 1) (by kernel_rfl) (args := #[(Go.Value.pointer none), .agg (iv (lvl l)), .int .i64 fr]) (run_value_call 9 #[(Operand.const (Value.pointer none)), (Operand.tmp 35), (Operand.tmp 36)] _ rfl Try.func9 (by kernel_rfl) (by kernel_rfl) _ (by kernel_rfl)) (bput_nil W41 (lvl l) (lvl_length _) fr) ?_
  intro W43 M44
  refine st_val (.bool false) (by kernel_rfl) (by kernel_rfl) ?_
  refine st_val (.bool false) (by kernel_rfl) (by kernel_rfl) ?_
  refine wl_nil ?_
  refine hK40 _ _ ?_
  try clear hK40 K40
  refine wp_frame (a' := ⟨#[.slice A l.length c, .int .i64 fr, undef, undef, .bool false, .pointer (some ⟨g5, 0, none⟩), .pointer (some ⟨g16, 0, none⟩), .int .i64 (bE (lvl l) fr), .slice A36 m33 cq37, .int .i64 (bE (lvl l) fr), .slice A l.length c, .agg (iv (lvl l)), .pointer (some ⟨g16, 0, none⟩), .pointer (some ⟨g16, 0, none⟩), .agg (iv (lvl l)), .int .i64 fr, .int .i64 (bE (lvl l) fr), .tuple #[.slice A36 m33 cq37, .int .i64 (bE (lvl l) fr)], .agg (iv (lvl l)), .int .i64 fr, .tuple #[.slice A36 m33 cq37, .int .i64 (bE (lvl l) fr)], .slice A36 m33 cq37, .int .i64 (bE (lvl l) fr), .int .i64 (bE (lvl l) fr), .int .i64 (bE (lvl l) fr), .bool false, .bool false, .agg (iv (lvl l)), .int .i64 fr, .int .i64 (((bC (lvl l) fr).length : Nat) : Int), .slice A36 m33 cq37, .int .i64 ((m33 : Nat) : Int), .bool false, .bool false, .bool false, .agg (iv (lvl l)), .int .i64 fr, .int .i64 1, .bool false, .bool false, undef, undef, undef, undef, undef, undef, undef, undef, undef, undef, undef, undef], []⟩) (by kernel_rfl) ?_
  refine wp_cond_false (by kernel_rfl) ?_
  refine wp_skip ?_
  refine hK39 _ _ ?_
  try clear hK39 K39
  refine wp_seq_k (fun K45 hK45 => ?_)
  refine wl_region ?_
  refine st_callB M44 (.bool true) (by kernel_rfl) (args := #[]) (run_value_call 12 #[] _ rfl Try.func12 (by kernel_rfl) (by kernel_rfl) _ (by kernel_rfl)) (awake_walk W43) ?_
  intro W46 M47
  refine st_val (.bool true) (by kernel_rfl) (by kernel_rfl) ?_
  refine st_val (.int .i64 (bE (lvl l) fr)) (by kernel_rfl) (by kernel_rfl) ?_
  rcases Decidable.em ((bE (lvl l) fr : Int) = 0) with c43 | c43
  ·
    refine st_val (.bool false) (by kernel_rfl) (bool_of (neq_f c43) (by kernel_rfl)) ?_
    refine st_val (.bool false) (by kernel_rfl) (by kernel_rfl) ?_
    refine st_val (.pointer (some ⟨g16, 0, none⟩)) (by kernel_rfl) (by kernel_rfl) ?_
    have M48 : Mem NoS w W46 ((g5, .cells (iv (lvl l)) 23 (0, 0)) :: (T20 ++ (T28 ++ []))) := M47.swap (A := [(g5, .cells (iv (lvl l)) 23 (0, 0))]) (T := T28) (U := T20) (B := [])
    refine st_callR (A := [(g5, .cells (iv (lvl l)) 23 (0, 0))]) (B := (T20 ++ (T28 ++ []))) M48 (by kernel_rfl) (run_value_call 14 #[(Operand.tmp 45)] _ rfl Try.func14 (by kernel_rfl) (by kernel_rfl) _ (by kernel_rfl)) (wPayM W46 O24 (Mem.part (A := [(g5, .cells (iv (lvl l)) 23 (0, 0))]) (T := T20) (B := (T28 ++ [])) M48) (by have := bC_le (lvl l) fr; rw [List.nil_append]; omega)) ?_
    intro v49 T50 W51 O52 M53
    have M53 : Mem NoS w W51 ((g5, .cells (iv (lvl l)) 23 (0, 0)) :: (T50 ++ (T20 ++ (T28 ++ [])))) := M53
    obtain ⟨A54, cq55, rfl, hc56⟩ := O52.shape
    refine st_val (.slice A36 m33 cq37) (by kernel_rfl) (by kernel_rfl) ?_
    refine st_callR (A := [(g5, .cells (iv (lvl l)) 23 (0, 0))]) (B := (T50 ++ (T20 ++ (T28 ++ [])))) M53 (by kernel_rfl) (run_value_call 15 #[(Operand.tmp 47)] _ rfl Try.func15 (by kernel_rfl) (by kernel_rfl) _ (by kernel_rfl)) (payloadM W51 (.slice A36 m33 cq37) (bC (lvl l) fr) ((by rw [← hm34]; exact O35.rd (fun p hp => M53.at_ p (List.mem_cons_of_mem _ (List.mem_append_right _ (List.mem_append_right _ (List.mem_append_left _ hp))))))) (bC_bin _ _) (by have := bC_le (lvl l) fr; omega)) ?_
    intro v57 T58 W59 O60 M61
    have M61 : Mem NoS w W59 ((g5, .cells (iv (lvl l)) 23 (0, 0)) :: (T58 ++ (T50 ++ (T20 ++ (T28 ++ []))))) := M61
    obtain ⟨A62, cq63, rfl, hc64⟩ := O60.shape
    refine st_callE (.bool true) (by kernel_rfl) (args := #[.slice A54 ((payload ([] ++ bC (lvl l) fr)).length) cq55, .slice A62 ((payload (bC (lvl l) fr)).length) cq63]) (run_value_call 13 #[(Operand.tmp 46), (Operand.tmp 48)] _ rfl Try.func13 (by kernel_rfl) (by kernel_rfl) _ (by kernel_rfl)) ((by have := sameM W59 (.slice A54 ((payload ([] ++ bC (lvl l) fr)).length) cq55) (.slice A62 ((payload (bC (lvl l) fr)).length) cq63) (payload ([] ++ bC (lvl l) fr)) (payload (bC (lvl l) fr)) (O52.rd (fun p hp => M61.at_ p (List.mem_cons_of_mem _ (List.mem_append_right _ (List.mem_append_left _ hp))))) (O60.rd (fun p hp => M61.at_ p (List.mem_cons_of_mem _ (List.mem_append_left _ hp)))) (payload_lt _ O24.bin) (payload_lt _ (bC_bin _ _)); rw [decide_eq_true (show payload ([] ++ bC (lvl l) fr) = payload (bC (lvl l) fr) by rw [List.nil_append])] at this; exact this)) ?_
    refine st_val (.bool true) (by kernel_rfl) (by kernel_rfl) ?_
    refine st_val (.bool true) (by kernel_rfl) (by kernel_rfl) ?_
    refine st_val (.bool true) (by kernel_rfl) (by kernel_rfl) ?_
    refine wl_nil ?_
    refine hK45 _ _ ?_
    try clear hK45 K45
    refine wp_frame (a' := ⟨#[.slice A l.length c, .int .i64 fr, undef, undef, .bool true, .pointer (some ⟨g5, 0, none⟩), .pointer (some ⟨g16, 0, none⟩), .int .i64 (bE (lvl l) fr), .slice A36 m33 cq37, .int .i64 (bE (lvl l) fr), .slice A l.length c, .agg (iv (lvl l)), .pointer (some ⟨g16, 0, none⟩), .pointer (some ⟨g16, 0, none⟩), .agg (iv (lvl l)), .int .i64 fr, .int .i64 (bE (lvl l) fr), .tuple #[.slice A36 m33 cq37, .int .i64 (bE (lvl l) fr)], .agg (iv (lvl l)), .int .i64 fr, .tuple #[.slice A36 m33 cq37, .int .i64 (bE (lvl l) fr)], .slice A36 m33 cq37, .int .i64 (bE (lvl l) fr), .int .i64 (bE (lvl l) fr), .int .i64 (bE (lvl l) fr), .bool false, .bool false, .agg (iv (lvl l)), .int .i64 fr, .int .i64 (((bC (lvl l) fr).length : Nat) : Int), .slice A36 m33 cq37, .int .i64 ((m33 : Nat) : Int), .bool false, .bool false, .bool false, .agg (iv (lvl l)), .int .i64 fr, .int .i64 1, .bool false, .bool false, .bool true, .bool true, .int .i64 (bE (lvl l) fr), .bool false, .bool false, .pointer (some ⟨g16, 0, none⟩), .slice A54 ((payload ([] ++ bC (lvl l) fr)).length) cq55, .slice A36 m33 cq37, .slice A62 ((payload (bC (lvl l) fr)).length) cq63, .bool true, .bool true, .bool true], []⟩) (by kernel_rfl) ?_
    refine wp_ret ?_
    exact done1 4 (.bool true) (by kernel_rfl) (by kernel_rfl) (by kernel_rfl) ⟨rfl, M61.toBelow⟩
  ·
    refine st_val (.bool true) (by kernel_rfl) (bool_of (neq_t c43) (by kernel_rfl)) ?_
    refine st_val (.bool true) (by kernel_rfl) (by kernel_rfl) ?_
    refine st_skip (by kernel_rfl) ?_
    refine st_skip (by kernel_rfl) ?_
    refine st_skip (by kernel_rfl) ?_
    refine st_skip (by kernel_rfl) ?_
    refine st_skip (by kernel_rfl) ?_
    refine st_val (.bool true) (by kernel_rfl) (by kernel_rfl) ?_
    refine st_val (.bool true) (by kernel_rfl) (by kernel_rfl) ?_
    refine st_val (.bool true) (by kernel_rfl) (by kernel_rfl) ?_
    refine wl_nil ?_
    refine hK45 _ _ ?_
    try clear hK45 K45
    refine wp_frame (a' := ⟨#[.slice A l.length c, .int .i64 fr, undef, undef, .bool true, .pointer (some ⟨g5, 0, none⟩), .pointer (some ⟨g16, 0, none⟩), .int .i64 (bE (lvl l) fr), .slice A36 m33 cq37, .int .i64 (bE (lvl l) fr), .slice A l.length c, .agg (iv (lvl l)), .pointer (some ⟨g16, 0, none⟩), .pointer (some ⟨g16, 0, none⟩), .agg (iv (lvl l)), .int .i64 fr, .int .i64 (bE (lvl l) fr), .tuple #[.slice A36 m33 cq37, .int .i64 (bE (lvl l) fr)], .agg (iv (lvl l)), .int .i64 fr, .tuple #[.slice A36 m33 cq37, .int .i64 (bE (lvl l) fr)], .slice A36 m33 cq37, .int .i64 (bE (lvl l) fr), .int .i64 (bE (lvl l) fr), .int .i64 (bE (lvl l) fr), .bool false, .bool false, .agg (iv (lvl l)), .int .i64 fr, .int .i64 (((bC (lvl l) fr).length : Nat) : Int), .slice A36 m33 cq37, .int .i64 ((m33 : Nat) : Int), .bool false, .bool false, .bool false, .agg (iv (lvl l)), .int .i64 fr, .int .i64 1, .bool false, .bool false, .bool true, .bool true, .int .i64 (bE (lvl l) fr), .bool true, .bool true, undef, undef, undef, undef, undef, .bool true, .bool true], []⟩) (by kernel_rfl) ?_
    refine wp_ret ?_
    exact done1 4 (.bool true) (by kernel_rfl) (by kernel_rfl) (by kernel_rfl) ⟨rfl, M47.toBelow⟩
end Go.Proofs.Ytmchfkkifeioeaa
