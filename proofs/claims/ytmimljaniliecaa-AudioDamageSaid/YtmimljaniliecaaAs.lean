/- Sums and sizes. -/
import Derived.Test.YtmimljaniliecaaObj
import Derived.Test.YtmimljaniliecaaVn
import Derived.Test.YtmimljaniliecaaCr
namespace Go.Proofs.Ytmimljaniliecaa
open Go.RowKit Bt

theorem wrap_u16 {e : Int} (h : 0 ≤ e ∧ e ≤ 65535) : IntKind.u16.wrap e = e := by
  simp only [IntKind.wrap, IntKind.bits, IntKind.signed]
  simp
  omega
theorem wrap_u16m (n : Nat) : IntKind.u16.wrap ((n : Nat) : Int) = ((n % 65536 : Nat) : Int) := by
  simp only [IntKind.wrap, IntKind.bits, IntKind.signed]
  simp
theorem wrap_u8m (n : Nat) : IntKind.u8.wrap ((n : Nat) : Int) = ((n % 256 : Nat) : Int) := by
  simp only [IntKind.wrap, IntKind.bits, IntKind.signed]
  simp
theorem i64_xor_nat (a b : Nat) (ha : a < 4611686018427387904) (hb : b < 4611686018427387904) : bits .xor .i64 (a : Int) (b : Int) = ((a ^^^ b : Nat) : Int) := by
  have hx : a ^^^ b < 2 ^ 62 := Nat.xor_lt_two_pow (by omega) (by omega)
  show IntKind.i64.wrap ((BitVec.ofInt 64 (a : Int) ^^^ BitVec.ofInt 64 (b : Int)).toNat : Int) = _
  have h64 : ∀ x : Nat, x < 4611686018427387904 → (BitVec.ofInt 64 (x : Int)).toNat = x := fun x hx => by
    rw [BitVec.ofInt_natCast, BitVec.toNat_ofNat]; exact Nat.mod_eq_of_lt (by omega)
  rw [BitVec.toNat_xor, h64 a ha, h64 b hb]
  exact i64_wrap (by omega)
def u16v (l : List Nat) : Array Value := (l.map fun (x : Nat) => Value.int .u16 (x : Int)).toArray
theorem u16v_get (l : List Nat) (j : Nat) (h : j < l.length) : (u16v l)[j]? = some (.int .u16 ((l.getD j 0 : Nat) : Int)) := by
  simp [u16v, List.getElem?_eq_getElem h]
theorem getD_b {l : List Nat} (h : ∀ x ∈ l, x < 256) (i : Nat) : l.getD i 0 < 256 := last_lt h i
/-- a list of bytes with its sum -/
def summedB (b : List Nat) : List Nat := b ++ [crc b / 256, crc b % 256]
theorem summedB_len (b : List Nat) : (summedB b).length = b.length + 2 := by simp [summedB]
theorem summedB_lt {b : List Nat} (h : ∀ x ∈ b, x < 256) : ∀ x ∈ summedB b, x < 256 := by
  intro x hx
  have := crc_lt h
  rcases List.mem_append.1 hx with hx | hx
  · exact h x hx
  · simp only [List.mem_cons, List.not_mem_nil, or_false] at hx; omega
/-- the size of a block -/
def bsz (n : Int) : Int := if 1 ≤ n ∧ n ≤ 4 then 4 + 292 * n / 8 + 1 else 0
def mayC (n : Int) : Bool := decide (1 ≤ n ∧ n ≤ 4)
def half (e : Nat) : Nat := if e = 0 then 0 else 2 ^ (e - 1)
set_option maxHeartbeats 4000000 in
set_option maxRecDepth 100000 in
theorem sum_walk (w : World) (v : Value) (l : List Nat) (hr : RdK w v l.length (u8s l)) (hb : ∀ x ∈ l, x < 256) (hlen : l.length ≤ 1000000000) : Calls Try.prog 13 #[v] w fun e w' => e = .returned (.int .u16 ((crc l : Nat) : Int)) ∧ Below w.heap.size w w' := by
  obtain ⟨A, c, rfl, hc⟩ := hr.shape
  refine calls_of_wp Try.func13 rfl ?_
  refine wp_frame (a' := ⟨#[.slice A l.length c, undef, undef, undef, undef, undef, undef, undef, undef, undef, undef, undef, undef, undef, undef, undef, undef, undef, undef, undef, undef, undef, undef, undef, undef, undef, undef, undef, undef, undef, undef, undef, undef, undef, undef], []⟩) (by kernel_rfl) ?_
  have M0 : Mem NoS w w [] := Mem.start _ _
  refine wp_seq_k (fun K1 hK1 => ?_)
  refine wl_region ?_
  refine st_val (.int .u16 0) (by kernel_rfl) (by kernel_rfl) ?_
  refine wl_nil ?_
  refine hK1 _ _ ?_
  try clear hK1 K1
  refine wp_seq_k (fun K2 hK2 => ?_)
  refine wl_region ?_
  refine st_val (.agg (u16v crcT)) (by kernel_rfl) (by kernel_rfl) ?_
  refine st_alloc M0 (.cells (u16v (List.replicate 16 0)) 47 (0, 0)) (by kernel_rfl) (by kernel_rfl) ?_
  intro g3 W4 M5
  refine st_storeRow M5 0 rfl 47 (.tmp 3) (.tmp 7) (by rfl) (u16v crcT) (by kernel_rfl) (by kernel_rfl) (by kernel_rfl) (by rfl) (by kernel_rfl) (by kernel_rfl) [(g3, .cells (u16v crcT) 47 (0, 0))] rfl ?_
  intro W6 M7
  refine wl_nil ?_
  refine hK2 _ _ ?_
  try clear hK2 K2
  refine wp_seq_k (fun K8 hK8 => ?_)
  refine wl_region ?_
  refine st_val (.int .u16 65535) (by kernel_rfl) (by kernel_rfl) ?_
  refine wl_nil ?_
  refine hK8 _ _ ?_
  try clear hK8 K8
  refine wp_seq_k (fun K9 hK9 => ?_)
  refine wp_seq_k (fun K10 hK10 => ?_)
  refine wl_region ?_
  refine st_val (.slice A l.length c) (by kernel_rfl) (by kernel_rfl) ?_
  refine st_val (.int .i64 ((l.length : Nat) : Int)) (by kernel_rfl) (by kernel_rfl) ?_
  refine st_val (.int .i64 0) (by kernel_rfl) (by kernel_rfl) ?_
  refine wl_nil ?_
  refine hK10 _ _ ?_
  try clear hK10 K10
  refine wp_block ?_
  refine wp_loop_ghost (fun gn a' w' => ∃ (i : Nat) (r : Nat) (u11 : Nat → Value), ((i ≤ l.length ∧ r < 65536 ∧ r = (l.take i).foldl crcB 65535) ∧ Mem NoS w w' [(g3, .cells (u16v crcT) 47 (0, 0))]) ∧ gn = l.length - i ∧ a' = ⟨#[.slice A l.length c, undef, .int .u16 0, .pointer (some ⟨g3, 0, none⟩), .int .u16 ((r : Nat) : Int), undef, (u11 6), .agg (u16v crcT), .slice A l.length c, .int .i64 ((l.length : Nat) : Int), .int .i64 ((i : Nat) : Int), (u11 11), (u11 12), (u11 13), (u11 14), (u11 15), (u11 16), (u11 17), (u11 18), (u11 19), (u11 20), (u11 21), (u11 22), (u11 23), (u11 24), (u11 25), (u11 26), (u11 27), (u11 28), (u11 29), (u11 30), (u11 31), (u11 32), (u11 33), undef], []⟩) _ ⟨0, 65535, (fun zz => Array.getD #[.slice A l.length c, undef, .int .u16 0, .pointer (some ⟨g3, 0, none⟩), .int .u16 65535, undef, undef, .agg (u16v crcT), .slice A l.length c, .int .i64 ((l.length : Nat) : Int), .int .i64 0, undef, undef, undef, undef, undef, undef, undef, undef, undef, undef, undef, undef, undef, undef, undef, undef, undef, undef, undef, undef, undef, undef, undef, undef] zz undef), ⟨⟨by omega, by omega, by rw [List.take_zero]; rfl⟩, M7⟩, rfl, (by kernel_rfl)⟩ ?_
  rintro gn _ W12 ⟨i, r, u11, ⟨⟨ri, hr0, hR⟩, M13⟩, rfl, rfl⟩
  refine wp_seq_k (fun K14 hK14 => ?_)
  refine wl_region ?_
  rcases Decidable.em ((((i : Nat) : Int) : Int) < ((l.length : Nat) : Int)) with c11 | c11
  ·
    refine st_val (.bool true) (by kernel_rfl) (bool_of (dec_t c11) (by kernel_rfl)) ?_
    refine wl_nil ?_
    refine hK14 _ _ ?_
    try clear hK14 K14
    refine wp_seq_k (fun K15 hK15 => ?_)
    refine wp_cond_true (by kernel_rfl) ?_
    refine wp_skip ?_
    refine hK15 _ _ ?_
    try clear hK15 K15
    refine wp_seq_k (fun K16 hK16 => ?_)
    refine wp_block ?_
    refine wp_seq_k (fun K17 hK17 => ?_)
    refine wl_region ?_
    obtain ⟨b18, o19, eA20⟩ := RdK.addr (hr.keep M13.keep (fun _ _ h => h)) (j := i * 1) (by rw [u8s_length]; omega)
    refine st_val (.pointer (some ⟨b18, o19 + i * 1, none⟩)) (by kernel_rfl) (run_indexSliceA 22 (.tmp 8) (.tmp 10) rfl A ⟨b18, o19, none⟩ eA20 l.length c .i64 i (by kernel_rfl) (by kernel_rfl) Try.underlying22 1 (by kernel_rfl) (by omega) ⟨b18, o19 + i * 1, none⟩ (addr_atK _ _ _ _)) ?_
    refine st_val (.int .u8 ((l.getD i 0 : Nat) : Int)) (by kernel_rfl) (run_load_cell 5 (.tmp 12) rfl ⟨b18, o19 + i * 1, none⟩ (by kernel_rfl) _ ((hr.keep M13.keep (fun _ _ h => h)).cellF eA20 (f := 0) (u8s_get l i (by omega))) (by kernel_rfl)) ?_
    refine st_val (.int .u8 ((l.getD i 0 : Nat) : Int)) (by kernel_rfl) (by kernel_rfl) ?_
    refine wl_nil ?_
    refine hK17 _ _ ?_
    try clear hK17 K17
    refine wp_seq_k (fun K21 hK21 => ?_)
    have hx := getD_b hb i
    have hr1 : (r ^^^ (l.getD i 0 * 256)) < 65536 := xor_lt (n := 16) (by omega) (by omega)
    have hr2 := nib_lt (r ^^^ (l.getD i 0 * 256))
    have hr3 := crcB_nib hr0 hx
    refine wl_region ?_
    refine st_val (.int .u16 ((r : Nat) : Int)) (by kernel_rfl) (by kernel_rfl) ?_
    refine st_val (.int .u8 ((l.getD i 0 : Nat) : Int)) (by kernel_rfl) (by kernel_rfl) ?_
    refine st_val (.int .u16 ((l.getD i 0 : Nat) : Int)) (by kernel_rfl) (int_of (wrap_u16 (by omega)) (by kernel_rfl)) ?_
    refine st_val (.int .u16 ((l.getD i 0 * 256 : Nat) : Int)) (by kernel_rfl) (run_value_bin .shl 24 48 (.tmp 16) _ rfl (.int .u16 ((l.getD i 0 : Nat) : Int)) (.int .u64 8) _ (by kernel_rfl) (by kernel_rfl) (by kernel_rfl) (bin_shl (n := 8) (by decide) (show IntKind.u16.wrap (((l.getD i 0 : Nat) : Int) * 2 ^ 8) = ((l.getD i 0 * 256 : Nat) : Int) from (by rw [show ((l.getD i 0 : Nat) : Int) * 2 ^ 8 = ((l.getD i 0 * 256 : Nat) : Int) by omega]; exact wrap_u16 (by omega))))) ?_
    refine st_val (.int .u16 (((r ^^^ (l.getD i 0 * 256)) : Nat) : Int)) (by kernel_rfl) (run_value_bin .xor 24 24 (.tmp 14) (.tmp 17) rfl (.int .u16 ((r : Nat) : Int)) (.int .u16 ((l.getD i 0 * 256 : Nat) : Int)) _ (by kernel_rfl) (by kernel_rfl) (by kernel_rfl) (bin_bits (by simp) (show bits .xor .u16 ((r : Nat) : Int) ((l.getD i 0 * 256 : Nat) : Int) = (((r ^^^ (l.getD i 0 * 256)) : Nat) : Int) from u16_xor_nat _ _ (by omega) (by omega)))) ?_
    refine st_val (.int .u16 (((r ^^^ (l.getD i 0 * 256)) : Nat) : Int)) (by kernel_rfl) (by kernel_rfl) ?_
    refine wl_nil ?_
    refine hK21 _ _ ?_
    try clear hK21 K21
    refine wp_seq_k (fun K22 hK22 => ?_)
    refine wl_region ?_
    refine st_val (.int .u16 (((r ^^^ (l.getD i 0 * 256)) : Nat) : Int)) (by kernel_rfl) (by kernel_rfl) ?_
    refine st_val (.int .u16 (((r ^^^ (l.getD i 0 * 256)) * 16 % 65536 : Nat) : Int)) (by kernel_rfl) (run_value_bin .shl 24 48 (.tmp 19) _ rfl (.int .u16 (((r ^^^ (l.getD i 0 * 256)) : Nat) : Int)) (.int .u64 4) _ (by kernel_rfl) (by kernel_rfl) (by kernel_rfl) (bin_shl (n := 4) (by decide) (show IntKind.u16.wrap ((((r ^^^ (l.getD i 0 * 256)) : Nat) : Int) * 2 ^ 4) = (((r ^^^ (l.getD i 0 * 256)) * 16 % 65536 : Nat) : Int) from (by rw [show (((r ^^^ (l.getD i 0 * 256)) : Nat) : Int) * 2 ^ 4 = (((r ^^^ (l.getD i 0 * 256)) * 16 : Nat) : Int) by omega]; exact wrap_u16m _)))) ?_
    refine st_val (.int .u16 (((r ^^^ (l.getD i 0 * 256)) : Nat) : Int)) (by kernel_rfl) (by kernel_rfl) ?_
    refine st_val (.int .u16 (((r ^^^ (l.getD i 0 * 256)) / 4096 : Nat) : Int)) (by kernel_rfl) (int_of (show (((r ^^^ (l.getD i 0 * 256)) : Nat) : Int) / 2 ^ 12 = (((r ^^^ (l.getD i 0 * 256)) / 4096 : Nat) : Int) from (by omega)) (run_value_bin .shr 24 48 (.tmp 21) _ rfl (.int .u16 (((r ^^^ (l.getD i 0 * 256)) : Nat) : Int)) (.int .u64 12) _ (by kernel_rfl) (by kernel_rfl) (by kernel_rfl) (bin_shr (n := 12) (by decide)))) ?_
    refine st_val (.pointer (some ⟨g3, (r ^^^ (l.getD i 0 * 256)) / 4096, none⟩)) (by kernel_rfl) (run_indexAddr 47 (.tmp 3) (.tmp 22) rfl ⟨g3, 0, none⟩ .u16 ((r ^^^ (l.getD i 0 * 256)) / 4096) (by kernel_rfl) (by kernel_rfl) Try.underlying47 1 (by kernel_rfl) (by omega) ⟨g3, (r ^^^ (l.getD i 0 * 256)) / 4096, none⟩ (addr_at0 _ _)) ?_
    refine st_val (.int .u16 ((crcT.getD ((r ^^^ (l.getD i 0 * 256)) / 4096) 0 : Nat) : Int)) (by kernel_rfl) (run_load_cell 24 (.tmp 23) rfl ⟨g3, (r ^^^ (l.getD i 0 * 256)) / 4096, none⟩ (by kernel_rfl) _ (M13.cell 0 rfl ((r ^^^ (l.getD i 0 * 256)) / 4096) _ (u16v_get crcT ((r ^^^ (l.getD i 0 * 256)) / 4096) (by show _ < 16; omega))) (by kernel_rfl)) ?_
    refine st_val (.int .u16 ((nib (r ^^^ (l.getD i 0 * 256)) : Nat) : Int)) (by kernel_rfl) (run_value_bin .xor 24 24 (.tmp 20) (.tmp 24) rfl (.int .u16 (((r ^^^ (l.getD i 0 * 256)) * 16 % 65536 : Nat) : Int)) (.int .u16 ((crcT.getD ((r ^^^ (l.getD i 0 * 256)) / 4096) 0 : Nat) : Int)) _ (by kernel_rfl) (by kernel_rfl) (by kernel_rfl) (bin_bits (by simp) (show bits .xor .u16 (((r ^^^ (l.getD i 0 * 256)) * 16 % 65536 : Nat) : Int) ((crcT.getD ((r ^^^ (l.getD i 0 * 256)) / 4096) 0 : Nat) : Int) = ((nib (r ^^^ (l.getD i 0 * 256)) : Nat) : Int) from u16_xor_nat _ _ (by omega) (crcT_lt _)))) ?_
    refine st_val (.int .u16 ((nib (r ^^^ (l.getD i 0 * 256)) : Nat) : Int)) (by kernel_rfl) (by kernel_rfl) ?_
    refine wl_nil ?_
    refine hK22 _ _ ?_
    try clear hK22 K22
    refine wp_frame (a' := ⟨#[.slice A l.length c, undef, .int .u16 0, .pointer (some ⟨g3, 0, none⟩), .int .u16 ((nib (r ^^^ (l.getD i 0 * 256)) : Nat) : Int), undef, .int .u8 ((l.getD i 0 : Nat) : Int), .agg (u16v crcT), .slice A l.length c, .int .i64 ((l.length : Nat) : Int), .int .i64 ((i : Nat) : Int), .bool true, .pointer (some ⟨b18, o19 + i * 1, none⟩), .int .u8 ((l.getD i 0 : Nat) : Int), .int .u16 ((r : Nat) : Int), .int .u8 ((l.getD i 0 : Nat) : Int), .int .u16 ((l.getD i 0 : Nat) : Int), .int .u16 ((l.getD i 0 * 256 : Nat) : Int), .int .u16 (((r ^^^ (l.getD i 0 * 256)) : Nat) : Int), .int .u16 (((r ^^^ (l.getD i 0 * 256)) : Nat) : Int), .int .u16 (((r ^^^ (l.getD i 0 * 256)) * 16 % 65536 : Nat) : Int), .int .u16 (((r ^^^ (l.getD i 0 * 256)) : Nat) : Int), .int .u16 (((r ^^^ (l.getD i 0 * 256)) / 4096 : Nat) : Int), .pointer (some ⟨g3, (r ^^^ (l.getD i 0 * 256)) / 4096, none⟩), .int .u16 ((crcT.getD ((r ^^^ (l.getD i 0 * 256)) / 4096) 0 : Nat) : Int), .int .u16 ((nib (r ^^^ (l.getD i 0 * 256)) : Nat) : Int), (u11 26), (u11 27), (u11 28), (u11 29), (u11 30), (u11 31), (u11 32), (u11 33), undef], []⟩) (by kernel_rfl) ?_
    refine wl_region ?_
    refine st_val (.int .u16 ((nib (r ^^^ (l.getD i 0 * 256)) : Nat) : Int)) (by kernel_rfl) (by kernel_rfl) ?_
    refine st_val (.int .u16 (((nib (r ^^^ (l.getD i 0 * 256))) * 16 % 65536 : Nat) : Int)) (by kernel_rfl) (run_value_bin .shl 24 48 (.tmp 26) _ rfl (.int .u16 ((nib (r ^^^ (l.getD i 0 * 256)) : Nat) : Int)) (.int .u64 4) _ (by kernel_rfl) (by kernel_rfl) (by kernel_rfl) (bin_shl (n := 4) (by decide) (show IntKind.u16.wrap (((nib (r ^^^ (l.getD i 0 * 256)) : Nat) : Int) * 2 ^ 4) = (((nib (r ^^^ (l.getD i 0 * 256))) * 16 % 65536 : Nat) : Int) from (by rw [show ((nib (r ^^^ (l.getD i 0 * 256)) : Nat) : Int) * 2 ^ 4 = (((nib (r ^^^ (l.getD i 0 * 256))) * 16 : Nat) : Int) by omega]; exact wrap_u16m _)))) ?_
    refine st_val (.int .u16 ((nib (r ^^^ (l.getD i 0 * 256)) : Nat) : Int)) (by kernel_rfl) (by kernel_rfl) ?_
    refine st_val (.int .u16 (((nib (r ^^^ (l.getD i 0 * 256))) / 4096 : Nat) : Int)) (by kernel_rfl) (int_of (show ((nib (r ^^^ (l.getD i 0 * 256)) : Nat) : Int) / 2 ^ 12 = (((nib (r ^^^ (l.getD i 0 * 256))) / 4096 : Nat) : Int) from (by omega)) (run_value_bin .shr 24 48 (.tmp 28) _ rfl (.int .u16 ((nib (r ^^^ (l.getD i 0 * 256)) : Nat) : Int)) (.int .u64 12) _ (by kernel_rfl) (by kernel_rfl) (by kernel_rfl) (bin_shr (n := 12) (by decide)))) ?_
    refine st_val (.pointer (some ⟨g3, nib (r ^^^ (l.getD i 0 * 256)) / 4096, none⟩)) (by kernel_rfl) (run_indexAddr 47 (.tmp 3) (.tmp 29) rfl ⟨g3, 0, none⟩ .u16 (nib (r ^^^ (l.getD i 0 * 256)) / 4096) (by kernel_rfl) (by kernel_rfl) Try.underlying47 1 (by kernel_rfl) (by omega) ⟨g3, nib (r ^^^ (l.getD i 0 * 256)) / 4096, none⟩ (addr_at0 _ _)) ?_
    refine st_val (.int .u16 ((crcT.getD (nib (r ^^^ (l.getD i 0 * 256)) / 4096) 0 : Nat) : Int)) (by kernel_rfl) (run_load_cell 24 (.tmp 30) rfl ⟨g3, nib (r ^^^ (l.getD i 0 * 256)) / 4096, none⟩ (by kernel_rfl) _ (M13.cell 0 rfl (nib (r ^^^ (l.getD i 0 * 256)) / 4096) _ (u16v_get crcT (nib (r ^^^ (l.getD i 0 * 256)) / 4096) (by show _ < 16; omega))) (by kernel_rfl)) ?_
    refine st_val (.int .u16 ((nib (nib (r ^^^ (l.getD i 0 * 256))) : Nat) : Int)) (by kernel_rfl) (run_value_bin .xor 24 24 (.tmp 27) (.tmp 31) rfl (.int .u16 (((nib (r ^^^ (l.getD i 0 * 256))) * 16 % 65536 : Nat) : Int)) (.int .u16 ((crcT.getD (nib (r ^^^ (l.getD i 0 * 256)) / 4096) 0 : Nat) : Int)) _ (by kernel_rfl) (by kernel_rfl) (by kernel_rfl) (bin_bits (by simp) (show bits .xor .u16 (((nib (r ^^^ (l.getD i 0 * 256))) * 16 % 65536 : Nat) : Int) ((crcT.getD (nib (r ^^^ (l.getD i 0 * 256)) / 4096) 0 : Nat) : Int) = ((nib (nib (r ^^^ (l.getD i 0 * 256))) : Nat) : Int) from u16_xor_nat _ _ (by omega) (crcT_lt _)))) ?_
    refine st_val (.int .u16 ((nib (nib (r ^^^ (l.getD i 0 * 256))) : Nat) : Int)) (by kernel_rfl) (by kernel_rfl) ?_
    refine wl_nil ?_
    refine blk_normal ?_
    refine hK16 _ _ ?_
    try clear hK16 K16
    refine wl_region ?_
    refine st_val (.int .i64 (((i : Nat) : Int) + 1)) (by kernel_rfl) (i64_of (by omega) (by kernel_rfl)) ?_
    refine st_val (.int .i64 (((i : Nat) : Int) + 1)) (by kernel_rfl) (by kernel_rfl) ?_
    refine wl_nil ?_
    refine th_normal ?_
    exact ⟨_, by omega, (i + 1), (nib (nib (r ^^^ (l.getD i 0 * 256)))), (fun zz => Array.getD #[.slice A l.length c, undef, .int .u16 0, .pointer (some ⟨g3, 0, none⟩), .int .u16 ((nib (nib (r ^^^ (l.getD i 0 * 256))) : Nat) : Int), undef, .int .u8 ((l.getD i 0 : Nat) : Int), .agg (u16v crcT), .slice A l.length c, .int .i64 ((l.length : Nat) : Int), .int .i64 (((i : Nat) : Int) + 1), .bool true, .pointer (some ⟨b18, o19 + i * 1, none⟩), .int .u8 ((l.getD i 0 : Nat) : Int), .int .u16 ((r : Nat) : Int), .int .u8 ((l.getD i 0 : Nat) : Int), .int .u16 ((l.getD i 0 : Nat) : Int), .int .u16 ((l.getD i 0 * 256 : Nat) : Int), .int .u16 (((r ^^^ (l.getD i 0 * 256)) : Nat) : Int), .int .u16 (((r ^^^ (l.getD i 0 * 256)) : Nat) : Int), .int .u16 (((r ^^^ (l.getD i 0 * 256)) * 16 % 65536 : Nat) : Int), .int .u16 (((r ^^^ (l.getD i 0 * 256)) : Nat) : Int), .int .u16 (((r ^^^ (l.getD i 0 * 256)) / 4096 : Nat) : Int), .pointer (some ⟨g3, (r ^^^ (l.getD i 0 * 256)) / 4096, none⟩), .int .u16 ((crcT.getD ((r ^^^ (l.getD i 0 * 256)) / 4096) 0 : Nat) : Int), .int .u16 ((nib (r ^^^ (l.getD i 0 * 256)) : Nat) : Int), .int .u16 ((nib (r ^^^ (l.getD i 0 * 256)) : Nat) : Int), .int .u16 (((nib (r ^^^ (l.getD i 0 * 256))) * 16 % 65536 : Nat) : Int), .int .u16 ((nib (r ^^^ (l.getD i 0 * 256)) : Nat) : Int), .int .u16 (((nib (r ^^^ (l.getD i 0 * 256))) / 4096 : Nat) : Int), .pointer (some ⟨g3, nib (r ^^^ (l.getD i 0 * 256)) / 4096, none⟩), .int .u16 ((crcT.getD (nib (r ^^^ (l.getD i 0 * 256)) / 4096) 0 : Nat) : Int), .int .u16 ((nib (nib (r ^^^ (l.getD i 0 * 256))) : Nat) : Int), .int .i64 (((i : Nat) : Int) + 1), undef] zz undef), ⟨⟨by omega, nib_lt _, by rw [crc_take l i (by omega), ← hR, hr3]⟩, M13⟩, rfl, (by kernel_rfl)⟩
  ·
    refine st_val (.bool false) (by kernel_rfl) (bool_of (dec_f c11) (by kernel_rfl)) ?_
    refine wl_nil ?_
    refine hK14 _ _ ?_
    try clear hK14 K14
    refine wp_seq_k (fun K23 hK23 => ?_)
    refine wp_cond_false (by kernel_rfl) ?_
    refine wp_exit ?_
    refine th_exit ?_
    refine th_exit ?_
    refine blk_exit ?_
    refine hK9 _ _ ?_
    try clear hK9 K9
    refine wp_seq_k (fun K24 hK24 => ?_)
    refine wl_region ?_
    refine st_val (.int .u16 ((r : Nat) : Int)) (by kernel_rfl) (by kernel_rfl) ?_
    refine st_val (.int .u16 ((r : Nat) : Int)) (by kernel_rfl) (by kernel_rfl) ?_
    refine wl_nil ?_
    refine hK24 _ _ ?_
    try clear hK24 K24
    refine wp_ret ?_
    exact done1 2 (.int .u16 ((r : Nat) : Int)) (by kernel_rfl) (by kernel_rfl) (by kernel_rfl) ⟨by rw [hR, List.take_of_length_le (by omega)]; rfl, M13.toBelow⟩
set_option maxHeartbeats 4000000 in
set_option maxRecDepth 100000 in
theorem refSum_walk (w : World) (v : Value) (l : List Nat) (hr : RdK w v l.length (u8s l)) (hb : ∀ x ∈ l, x < 256) (hlen : l.length ≤ 1000000000) : Calls Try.prog 14 #[v] w fun e w' => e = .returned (.int .u16 ((crc l : Nat) : Int)) ∧ Below w.heap.size w w' := by
  obtain ⟨A, c, rfl, hc⟩ := hr.shape
  refine calls_of_wp Try.func14 rfl ?_
  refine wp_frame (a' := ⟨#[.slice A l.length c, undef, undef, undef, undef, undef, undef, undef, undef, undef, undef, undef, undef, undef, undef, undef, undef, undef, undef, undef, undef, undef, undef, undef, undef, undef, undef, undef, undef, undef, undef, undef, undef, undef], []⟩) (by kernel_rfl) ?_
  have M0 : Mem NoS w w [] := Mem.start _ _
  refine wp_seq_k (fun K1 hK1 => ?_)
  refine wl_region ?_
  refine st_val (.int .u16 0) (by kernel_rfl) (by kernel_rfl) ?_
  refine wl_nil ?_
  refine hK1 _ _ ?_
  try clear hK1 K1
  refine wp_seq_k (fun K2 hK2 => ?_)
  refine wl_region ?_
  refine st_val (.int .i64 65535) (by kernel_rfl) (by kernel_rfl) ?_
  refine wl_nil ?_
  refine hK2 _ _ ?_
  try clear hK2 K2
  refine wp_seq_k (fun K3 hK3 => ?_)
  refine wp_seq_k (fun K4 hK4 => ?_)
  refine wl_region ?_
  refine st_val (.int .i64 0) (by kernel_rfl) (by kernel_rfl) ?_
  refine wl_nil ?_
  refine hK4 _ _ ?_
  try clear hK4 K4
  refine wp_block ?_
  refine wp_loop_ghost (fun gn a' w' => ∃ (i : Nat) (r : Nat) (u5 : Nat → Value), ((i ≤ l.length ∧ r < 65536 ∧ r = (l.take i).foldl crcB 65535) ∧ Mem NoS w w' []) ∧ gn = l.length - i ∧ a' = ⟨#[.slice A l.length c, undef, .int .u16 0, .int .i64 ((r : Nat) : Int), .int .i64 ((i : Nat) : Int), (u5 5), (u5 6), (u5 7), (u5 8), (u5 9), (u5 10), (u5 11), (u5 12), (u5 13), (u5 14), (u5 15), (u5 16), (u5 17), (u5 18), (u5 19), (u5 20), (u5 21), (u5 22), (u5 23), (u5 24), (u5 25), (u5 26), (u5 27), (u5 28), (u5 29), (u5 30), (u5 31), undef, undef], []⟩) _ ⟨0, 65535, (fun zz => Array.getD #[.slice A l.length c, undef, .int .u16 0, .int .i64 65535, .int .i64 0, undef, undef, undef, undef, undef, undef, undef, undef, undef, undef, undef, undef, undef, undef, undef, undef, undef, undef, undef, undef, undef, undef, undef, undef, undef, undef, undef, undef, undef] zz undef), ⟨⟨by omega, by omega, by rw [List.take_zero]; rfl⟩, M0⟩, rfl, (by kernel_rfl)⟩ ?_
  rintro gn _ W6 ⟨i, r, u5, ⟨⟨ri, hr0, hR⟩, M7⟩, rfl, rfl⟩
  refine wp_seq_k (fun K8 hK8 => ?_)
  refine wp_seq_k (fun K9 hK9 => ?_)
  refine wl_region ?_
  refine st_val (.int .i64 ((i : Nat) : Int)) (by kernel_rfl) (by kernel_rfl) ?_
  refine st_val (.slice A l.length c) (by kernel_rfl) (by kernel_rfl) ?_
  refine st_val (.int .i64 ((l.length : Nat) : Int)) (by kernel_rfl) (by kernel_rfl) ?_
  rcases Decidable.em ((((i : Nat) : Int) : Int) < ((l.length : Nat) : Int)) with c9 | c9
  ·
    refine st_val (.bool true) (by kernel_rfl) (bool_of (dec_t c9) (by kernel_rfl)) ?_
    refine wl_nil ?_
    refine hK9 _ _ ?_
    try clear hK9 K9
    refine wp_cond_true (by kernel_rfl) ?_
    refine wp_skip ?_
    refine hK8 _ _ ?_
    try clear hK8 K8
    refine wp_seq_k (fun K10 hK10 => ?_)
    refine wp_block ?_
    refine wp_seq_k (fun K11 hK11 => ?_)
    have hx := getD_b hb i
    refine wl_region ?_
    refine st_val (.int .i64 ((r : Nat) : Int)) (by kernel_rfl) (by kernel_rfl) ?_
    refine st_val (.slice A l.length c) (by kernel_rfl) (by kernel_rfl) ?_
    refine st_val (.int .i64 ((i : Nat) : Int)) (by kernel_rfl) (by kernel_rfl) ?_
    obtain ⟨b12, o13, eA14⟩ := RdK.addr (hr.keep M7.keep (fun _ _ h => h)) (j := i * 1) (by rw [u8s_length]; omega)
    refine st_val (.pointer (some ⟨b12, o13 + i * 1, none⟩)) (by kernel_rfl) (run_indexSliceA 22 (.tmp 13) (.tmp 14) rfl A ⟨b12, o13, none⟩ eA14 l.length c .i64 i (by kernel_rfl) (by kernel_rfl) Try.underlying22 1 (by kernel_rfl) (by omega) ⟨b12, o13 + i * 1, none⟩ (addr_atK _ _ _ _)) ?_
    refine st_val (.int .u8 ((l.getD i 0 : Nat) : Int)) (by kernel_rfl) (run_load_cell 5 (.tmp 15) rfl ⟨b12, o13 + i * 1, none⟩ (by kernel_rfl) _ ((hr.keep M7.keep (fun _ _ h => h)).cellF eA14 (f := 0) (u8s_get l i (by omega))) (by kernel_rfl)) ?_
    refine st_val (.int .i64 ((l.getD i 0 : Nat) : Int)) (by kernel_rfl) (i64_of (by omega) (by kernel_rfl)) ?_
    refine st_val (.int .i64 ((l.getD i 0 * 256 : Nat) : Int)) (by kernel_rfl) (int_of (show ((l.getD i 0 : Nat) : Int) * 256 = ((l.getD i 0 * 256 : Nat) : Int) by omega) (i64_of (by omega) (by kernel_rfl))) ?_
    refine st_val (.int .i64 (((r ^^^ (l.getD i 0 * 256)) : Nat) : Int)) (by kernel_rfl) (run_value_bin .xor 3 3 (.tmp 12) (.tmp 18) rfl (.int .i64 ((r : Nat) : Int)) (.int .i64 ((l.getD i 0 * 256 : Nat) : Int)) _ (by kernel_rfl) (by kernel_rfl) (by kernel_rfl) (bin_bits (by simp) (show bits .xor .i64 ((r : Nat) : Int) ((l.getD i 0 * 256 : Nat) : Int) = (((r ^^^ (l.getD i 0 * 256)) : Nat) : Int) from i64_xor_nat _ _ (by omega) (by omega)))) ?_
    refine st_val (.int .i64 (((r ^^^ (l.getD i 0 * 256)) : Nat) : Int)) (by kernel_rfl) (by kernel_rfl) ?_
    refine wl_nil ?_
    refine hK11 _ _ ?_
    try clear hK11 K11
    refine wp_frame (a' := ⟨#[.slice A l.length c, undef, .int .u16 0, .int .i64 (((r ^^^ (l.getD i 0 * 256)) : Nat) : Int), .int .i64 ((i : Nat) : Int), (u5 5), .int .i64 ((i : Nat) : Int), .slice A l.length c, .int .i64 ((l.length : Nat) : Int), .bool true, (u5 10), (u5 11), .int .i64 ((r : Nat) : Int), .slice A l.length c, .int .i64 ((i : Nat) : Int), .pointer (some ⟨b12, o13 + i * 1, none⟩), .int .u8 ((l.getD i 0 : Nat) : Int), .int .i64 ((l.getD i 0 : Nat) : Int), .int .i64 ((l.getD i 0 * 256 : Nat) : Int), .int .i64 (((r ^^^ (l.getD i 0 * 256)) : Nat) : Int), (u5 20), (u5 21), (u5 22), (u5 23), (u5 24), (u5 25), (u5 26), (u5 27), (u5 28), (u5 29), (u5 30), (u5 31), undef, undef], []⟩) (by kernel_rfl) ?_
    refine wp_seq_k (fun K15 hK15 => ?_)
    refine wl_region ?_
    refine st_val (.int .i64 0) (by kernel_rfl) (by kernel_rfl) ?_
    refine wl_nil ?_
    refine hK15 _ _ ?_
    try clear hK15 K15
    refine wp_block ?_
    have hr1 : (r ^^^ (l.getD i 0 * 256)) < 65536 := xor_lt (n := 16) (by omega) (by omega)
    refine wp_loop_ghost (fun gn a' w' => ∃ (k : Nat) (q : Nat) (u16 : Nat → Value), ((k ≤ 8 ∧ q < 65536 ∧ q = bitN k (r ^^^ (l.getD i 0 * 256))) ∧ Mem NoS w w' []) ∧ gn = 8 - k ∧ a' = ⟨#[.slice A l.length c, undef, .int .u16 0, .int .i64 ((q : Nat) : Int), .int .i64 ((i : Nat) : Int), .int .i64 ((k : Nat) : Int), .int .i64 ((i : Nat) : Int), .slice A l.length c, .int .i64 ((l.length : Nat) : Int), .bool true, (u5 10), (u5 11), .int .i64 ((r : Nat) : Int), .slice A l.length c, .int .i64 ((i : Nat) : Int), .pointer (some ⟨b12, o13 + i * 1, none⟩), .int .u8 ((l.getD i 0 : Nat) : Int), .int .i64 ((l.getD i 0 : Nat) : Int), .int .i64 ((l.getD i 0 * 256 : Nat) : Int), .int .i64 (((r ^^^ (l.getD i 0 * 256)) : Nat) : Int), (u16 20), (u16 21), (u16 22), (u16 23), (u16 24), (u16 25), (u16 26), (u16 27), (u16 28), (u16 29), (u16 30), (u16 31), undef, undef], []⟩) _ ⟨0, (r ^^^ (l.getD i 0 * 256)), (fun zz => Array.getD #[.slice A l.length c, undef, .int .u16 0, .int .i64 (((r ^^^ (l.getD i 0 * 256)) : Nat) : Int), .int .i64 ((i : Nat) : Int), .int .i64 0, .int .i64 ((i : Nat) : Int), .slice A l.length c, .int .i64 ((l.length : Nat) : Int), .bool true, (u5 10), (u5 11), .int .i64 ((r : Nat) : Int), .slice A l.length c, .int .i64 ((i : Nat) : Int), .pointer (some ⟨b12, o13 + i * 1, none⟩), .int .u8 ((l.getD i 0 : Nat) : Int), .int .i64 ((l.getD i 0 : Nat) : Int), .int .i64 ((l.getD i 0 * 256 : Nat) : Int), .int .i64 (((r ^^^ (l.getD i 0 * 256)) : Nat) : Int), (u5 20), (u5 21), (u5 22), (u5 23), (u5 24), (u5 25), (u5 26), (u5 27), (u5 28), (u5 29), (u5 30), (u5 31), undef, undef] zz undef), ⟨⟨by omega, hr1, rfl⟩, M7⟩, rfl, (by kernel_rfl)⟩ ?_
    rintro gn _ W17 ⟨k, q, u16, ⟨⟨rk, hq0, hQ⟩, M18⟩, rfl, rfl⟩
    refine wp_seq_k (fun K19 hK19 => ?_)
    refine wp_seq_k (fun K20 hK20 => ?_)
    refine wl_region ?_
    refine st_val (.int .i64 ((k : Nat) : Int)) (by kernel_rfl) (by kernel_rfl) ?_
    rcases Decidable.em ((((k : Nat) : Int) : Int) < 8) with c21 | c21
    ·
      refine st_val (.bool true) (by kernel_rfl) (bool_of (dec_t c21) (by kernel_rfl)) ?_
      refine wl_nil ?_
      refine hK20 _ _ ?_
      try clear hK20 K20
      refine wp_cond_true (by kernel_rfl) ?_
      refine wp_skip ?_
      refine hK19 _ _ ?_
      try clear hK19 K19
      refine wp_seq_k (fun K21 hK21 => ?_)
      refine wp_block ?_
      refine wp_seq_k (fun K22 hK22 => ?_)
      refine wl_region ?_
      refine st_val (.int .i64 ((q : Nat) : Int)) (by kernel_rfl) (by kernel_rfl) ?_
      rcases Decidable.em ((((q : Nat) : Int) : Int) ≥ 32768) with c25 | c25
      ·
        refine st_val (.bool true) (by kernel_rfl) (bool_of (dec_t c25) (by kernel_rfl)) ?_
        refine wl_nil ?_
        refine hK22 _ _ ?_
        try clear hK22 K22
        refine wp_cond_true (by kernel_rfl) ?_
        refine wl_region ?_
        refine st_val (.int .i64 ((q : Nat) : Int)) (by kernel_rfl) (by kernel_rfl) ?_
        refine st_val (.int .i64 ((2 * q : Nat) : Int)) (by kernel_rfl) (int_of (show 2 * ((q : Nat) : Int) = ((2 * q : Nat) : Int) by omega) (i64_of (by omega) (by kernel_rfl))) ?_
        refine st_val (.int .i64 ((2 * q % 65536 : Nat) : Int)) (by kernel_rfl) (int_of (rem_nat (2 * q) 65536) (by kernel_rfl)) ?_
        refine st_val (.int .i64 (((2 * q % 65536) ^^^ 4129 : Nat) : Int)) (by kernel_rfl) (run_value_bin .xor 3 3 (.tmp 28) _ rfl (.int .i64 ((2 * q % 65536 : Nat) : Int)) (.int .i64 4129) _ (by kernel_rfl) (by kernel_rfl) (by kernel_rfl) (bin_bits (by simp) (show bits .xor .i64 ((2 * q % 65536 : Nat) : Int) 4129 = (((2 * q % 65536) ^^^ 4129 : Nat) : Int) from i64_xor_nat (2 * q % 65536) 4129 (by omega) (by omega)))) ?_
        refine st_val (.int .i64 (((2 * q % 65536) ^^^ 4129 : Nat) : Int)) (by kernel_rfl) (by kernel_rfl) ?_
        refine wl_nil ?_
        refine blk_normal ?_
        refine hK21 _ _ ?_
        try clear hK21 K21
        refine wl_region ?_
        refine st_val (.int .i64 ((k : Nat) : Int)) (by kernel_rfl) (by kernel_rfl) ?_
        refine st_val (.int .i64 (((k : Nat) : Int) + 1)) (by kernel_rfl) (i64_of (by omega) (by kernel_rfl)) ?_
        refine st_val (.int .i64 (((k : Nat) : Int) + 1)) (by kernel_rfl) (by kernel_rfl) ?_
        refine wl_nil ?_
        refine th_normal ?_
        have hnx : crcBit q = (2 * q % 65536) ^^^ 4129 := if_pos (by omega)
        have hlt := crcBit_lt hq0
        exact ⟨_, by omega, (k + 1), ((2 * q % 65536) ^^^ 4129), (fun zz => Array.getD #[.slice A l.length c, undef, .int .u16 0, .int .i64 (((2 * q % 65536) ^^^ 4129 : Nat) : Int), .int .i64 ((i : Nat) : Int), .int .i64 (((k : Nat) : Int) + 1), .int .i64 ((i : Nat) : Int), .slice A l.length c, .int .i64 ((l.length : Nat) : Int), .bool true, (u5 10), (u5 11), .int .i64 ((r : Nat) : Int), .slice A l.length c, .int .i64 ((i : Nat) : Int), .pointer (some ⟨b12, o13 + i * 1, none⟩), .int .u8 ((l.getD i 0 : Nat) : Int), .int .i64 ((l.getD i 0 : Nat) : Int), .int .i64 ((l.getD i 0 * 256 : Nat) : Int), .int .i64 (((r ^^^ (l.getD i 0 * 256)) : Nat) : Int), .int .i64 ((k : Nat) : Int), .bool true, .int .i64 ((k : Nat) : Int), .int .i64 (((k : Nat) : Int) + 1), .int .i64 ((q : Nat) : Int), .bool true, .int .i64 ((q : Nat) : Int), .int .i64 ((2 * q : Nat) : Int), .int .i64 ((2 * q % 65536 : Nat) : Int), .int .i64 (((2 * q % 65536) ^^^ 4129 : Nat) : Int), (u16 30), (u16 31), undef, undef] zz undef), ⟨⟨by omega, by rw [← hnx]; exact hlt, by rw [← hnx, hQ]; rfl⟩, M18⟩, rfl, (by kernel_rfl)⟩
      ·
        refine st_val (.bool false) (by kernel_rfl) (bool_of (dec_f c25) (by kernel_rfl)) ?_
        refine wl_nil ?_
        refine hK22 _ _ ?_
        try clear hK22 K22
        refine wp_cond_false (by kernel_rfl) ?_
        refine wl_region ?_
        refine st_val (.int .i64 ((q : Nat) : Int)) (by kernel_rfl) (by kernel_rfl) ?_
        refine st_val (.int .i64 ((2 * q : Nat) : Int)) (by kernel_rfl) (int_of (show 2 * ((q : Nat) : Int) = ((2 * q : Nat) : Int) by omega) (i64_of (by omega) (by kernel_rfl))) ?_
        refine st_val (.int .i64 ((2 * q : Nat) : Int)) (by kernel_rfl) (by kernel_rfl) ?_
        refine wl_nil ?_
        refine blk_normal ?_
        refine hK21 _ _ ?_
        try clear hK21 K21
        refine wl_region ?_
        refine st_val (.int .i64 ((k : Nat) : Int)) (by kernel_rfl) (by kernel_rfl) ?_
        refine st_val (.int .i64 (((k : Nat) : Int) + 1)) (by kernel_rfl) (i64_of (by omega) (by kernel_rfl)) ?_
        refine st_val (.int .i64 (((k : Nat) : Int) + 1)) (by kernel_rfl) (by kernel_rfl) ?_
        refine wl_nil ?_
        refine th_normal ?_
        have hnx : crcBit q = 2 * q := if_neg (by omega)
        have hlt := crcBit_lt hq0
        exact ⟨_, by omega, (k + 1), (2 * q), (fun zz => Array.getD #[.slice A l.length c, undef, .int .u16 0, .int .i64 ((2 * q : Nat) : Int), .int .i64 ((i : Nat) : Int), .int .i64 (((k : Nat) : Int) + 1), .int .i64 ((i : Nat) : Int), .slice A l.length c, .int .i64 ((l.length : Nat) : Int), .bool true, (u5 10), (u5 11), .int .i64 ((r : Nat) : Int), .slice A l.length c, .int .i64 ((i : Nat) : Int), .pointer (some ⟨b12, o13 + i * 1, none⟩), .int .u8 ((l.getD i 0 : Nat) : Int), .int .i64 ((l.getD i 0 : Nat) : Int), .int .i64 ((l.getD i 0 * 256 : Nat) : Int), .int .i64 (((r ^^^ (l.getD i 0 * 256)) : Nat) : Int), .int .i64 ((k : Nat) : Int), .bool true, .int .i64 ((k : Nat) : Int), .int .i64 (((k : Nat) : Int) + 1), .int .i64 ((q : Nat) : Int), .bool false, (u16 26), (u16 27), (u16 28), (u16 29), .int .i64 ((q : Nat) : Int), .int .i64 ((2 * q : Nat) : Int), undef, undef] zz undef), ⟨⟨by omega, by rw [← hnx]; exact hlt, by rw [← hnx, hQ]; rfl⟩, M18⟩, rfl, (by kernel_rfl)⟩
    ·
      refine st_val (.bool false) (by kernel_rfl) (bool_of (dec_f c21) (by kernel_rfl)) ?_
      refine wl_nil ?_
      refine hK20 _ _ ?_
      try clear hK20 K20
      refine wp_cond_false (by kernel_rfl) ?_
      refine wp_exit ?_
      refine th_exit ?_
      refine th_exit ?_
      refine blk_exit ?_
      refine blk_normal ?_
      refine hK10 _ _ ?_
      try clear hK10 K10
      refine wl_region ?_
      refine st_val (.int .i64 ((i : Nat) : Int)) (by kernel_rfl) (by kernel_rfl) ?_
      refine st_val (.int .i64 (((i : Nat) : Int) + 1)) (by kernel_rfl) (i64_of (by omega) (by kernel_rfl)) ?_
      refine st_val (.int .i64 (((i : Nat) : Int) + 1)) (by kernel_rfl) (by kernel_rfl) ?_
      refine wl_nil ?_
      refine th_normal ?_
      exact ⟨_, by omega, (i + 1), q, (fun zz => Array.getD #[.slice A l.length c, undef, .int .u16 0, .int .i64 ((q : Nat) : Int), .int .i64 (((i : Nat) : Int) + 1), .int .i64 ((k : Nat) : Int), .int .i64 ((i : Nat) : Int), .slice A l.length c, .int .i64 ((l.length : Nat) : Int), .bool true, .int .i64 ((i : Nat) : Int), .int .i64 (((i : Nat) : Int) + 1), .int .i64 ((r : Nat) : Int), .slice A l.length c, .int .i64 ((i : Nat) : Int), .pointer (some ⟨b12, o13 + i * 1, none⟩), .int .u8 ((l.getD i 0 : Nat) : Int), .int .i64 ((l.getD i 0 : Nat) : Int), .int .i64 ((l.getD i 0 * 256 : Nat) : Int), .int .i64 (((r ^^^ (l.getD i 0 * 256)) : Nat) : Int), .int .i64 ((k : Nat) : Int), .bool false, (u16 22), (u16 23), (u16 24), (u16 25), (u16 26), (u16 27), (u16 28), (u16 29), (u16 30), (u16 31), undef, undef] zz undef), ⟨⟨by omega, hq0, by rw [crc_take l i (by omega), ← hR, hQ, show k = 8 by omega]; rfl⟩, M18⟩, rfl, (by kernel_rfl)⟩
  ·
    refine st_val (.bool false) (by kernel_rfl) (bool_of (dec_f c9) (by kernel_rfl)) ?_
    refine wl_nil ?_
    refine hK9 _ _ ?_
    try clear hK9 K9
    refine wp_cond_false (by kernel_rfl) ?_
    refine wp_exit ?_
    refine th_exit ?_
    refine th_exit ?_
    refine blk_exit ?_
    refine hK3 _ _ ?_
    try clear hK3 K3
    refine wp_seq_k (fun K23 hK23 => ?_)
    refine wl_region ?_
    refine st_val (.int .i64 ((r : Nat) : Int)) (by kernel_rfl) (by kernel_rfl) ?_
    refine st_val (.int .u16 ((r : Nat) : Int)) (by kernel_rfl) (int_of (wrap_u16 (by omega)) (by kernel_rfl)) ?_
    refine st_val (.int .u16 ((r : Nat) : Int)) (by kernel_rfl) (by kernel_rfl) ?_
    refine wl_nil ?_
    refine hK23 _ _ ?_
    try clear hK23 K23
    refine wp_ret ?_
    exact done1 2 (.int .u16 ((r : Nat) : Int)) (by kernel_rfl) (by kernel_rfl) (by kernel_rfl) ⟨by rw [hR, List.take_of_length_le (by omega)]; rfl, M7.toBelow⟩
set_option maxHeartbeats 4000000 in
set_option maxRecDepth 100000 in
theorem mayC_walk (w : World) (n : Int) : Calls Try.prog 32 #[.int .i64 n] w fun e w' => e = .returned (.bool (mayC n)) ∧ Below w.heap.size w w' := by
  refine calls_of_wp Try.func32 rfl ?_
  refine wp_frame (a' := ⟨#[.int .i64 n, undef, undef, undef, undef, undef, undef, undef, undef], []⟩) (by kernel_rfl) ?_
  have M0 : Mem NoS w w [] := Mem.start _ _
  refine wp_seq_k (fun K1 hK1 => ?_)
  refine wl_region ?_
  refine st_val (.bool false) (by kernel_rfl) (by kernel_rfl) ?_
  refine wl_nil ?_
  refine hK1 _ _ ?_
  try clear hK1 K1
  refine wp_seq_k (fun K2 hK2 => ?_)
  refine wl_region ?_
  refine st_val (.int .i64 n) (by kernel_rfl) (by kernel_rfl) ?_
  rcases Decidable.em ((n : Int) ≥ 1) with c4 | c4
  ·
    refine st_val (.bool true) (by kernel_rfl) (bool_of (dec_t c4) (by kernel_rfl)) ?_
    refine st_val (.bool true) (by kernel_rfl) (by kernel_rfl) ?_
    refine st_val (.int .i64 n) (by kernel_rfl) (by kernel_rfl) ?_
    rcases Decidable.em ((n : Int) ≤ 4) with c7 | c7
    ·
      refine st_val (.bool true) (by kernel_rfl) (bool_of (dec_t c7) (by kernel_rfl)) ?_
      refine st_val (.bool true) (by kernel_rfl) (by kernel_rfl) ?_
      refine st_val (.bool true) (by kernel_rfl) (by kernel_rfl) ?_
      refine wl_nil ?_
      refine hK2 _ _ ?_
      try clear hK2 K2
      refine wp_ret ?_
      exact done1 2 (.bool true) (by kernel_rfl) (by kernel_rfl) (by kernel_rfl) ⟨by rw [show mayC n = true from decide_eq_true ⟨by omega, by omega⟩], M0.toBelow⟩
    ·
      refine st_val (.bool false) (by kernel_rfl) (bool_of (dec_f c7) (by kernel_rfl)) ?_
      refine st_val (.bool false) (by kernel_rfl) (by kernel_rfl) ?_
      refine st_val (.bool false) (by kernel_rfl) (by kernel_rfl) ?_
      refine wl_nil ?_
      refine hK2 _ _ ?_
      try clear hK2 K2
      refine wp_ret ?_
      exact done1 2 (.bool false) (by kernel_rfl) (by kernel_rfl) (by kernel_rfl) ⟨by rw [show mayC n = false from decide_eq_false (fun h => by have := h.1; have := h.2; omega)], M0.toBelow⟩
  ·
    refine st_val (.bool false) (by kernel_rfl) (bool_of (dec_f c4) (by kernel_rfl)) ?_
    refine st_val (.bool false) (by kernel_rfl) (by kernel_rfl) ?_
    refine st_skip (by kernel_rfl) ?_
    refine st_skip (by kernel_rfl) ?_
    refine st_val (.bool false) (by kernel_rfl) (by kernel_rfl) ?_
    refine st_val (.bool false) (by kernel_rfl) (by kernel_rfl) ?_
    refine wl_nil ?_
    refine hK2 _ _ ?_
    try clear hK2 K2
    refine wp_ret ?_
    exact done1 2 (.bool false) (by kernel_rfl) (by kernel_rfl) (by kernel_rfl) ⟨by rw [show mayC n = false from decide_eq_false (fun h => by have := h.1; have := h.2; omega)], M0.toBelow⟩
set_option maxHeartbeats 4000000 in
set_option maxRecDepth 100000 in
theorem bsz_walk (w : World) (n : Int) : Calls Try.prog 15 #[.int .i64 n] w fun e w' => e = .returned (.int .i64 (bsz n)) ∧ Below w.heap.size w w' := by
  refine calls_of_wp Try.func15 rfl ?_
  refine wp_frame (a' := ⟨#[.int .i64 n, undef, undef, undef, undef, undef, undef, undef, undef, undef, undef, undef], []⟩) (by kernel_rfl) ?_
  have M0 : Mem NoS w w [] := Mem.start _ _
  refine wp_seq_k (fun K1 hK1 => ?_)
  refine wl_region ?_
  refine st_val (.int .i64 0) (by kernel_rfl) (by kernel_rfl) ?_
  refine wl_nil ?_
  refine hK1 _ _ ?_
  try clear hK1 K1
  refine wp_seq_k (fun K2 hK2 => ?_)
  refine wp_seq_k (fun K3 hK3 => ?_)
  refine wl_region ?_
  refine st_val (.int .i64 n) (by kernel_rfl) (by kernel_rfl) ?_
  rcases Bool.eq_false_or_eq_true (mayC n) with hmc | hmc
  ·
    obtain ⟨hm1, hm2⟩ := of_decide_eq_true hmc
    refine st_callB M0 (.bool true) (by kernel_rfl) (args := #[.int .i64 n]) (run_value_call 32 #[(Operand.tmp 3)] _ rfl Try.func32 (by kernel_rfl) (by kernel_rfl) _ (by kernel_rfl)) ((by have := mayC_walk w n; rw [hmc] at this; exact this)) ?_
    intro W4 M5
    refine st_val (.bool false) (by kernel_rfl) (by kernel_rfl) ?_
    refine wl_nil ?_
    refine hK3 _ _ ?_
    try clear hK3 K3
    refine wp_cond_false (by kernel_rfl) ?_
    refine wp_skip ?_
    refine hK2 _ _ ?_
    try clear hK2 K2
    refine wp_seq_k (fun K6 hK6 => ?_)
    refine wl_region ?_
    refine st_val (.int .i64 n) (by kernel_rfl) (by kernel_rfl) ?_
    refine st_val (.int .i64 (292 * n)) (by kernel_rfl) (i64_of (by omega) (by kernel_rfl)) ?_
    refine st_val (.int .i64 ((292 * n) / 8)) (by kernel_rfl) (int_of (quo_of (292 * n) 8 (by omega) (by omega) (by omega)) (by kernel_rfl)) ?_
    refine st_val (.int .i64 (2 + ((292 * n) / 8))) (by kernel_rfl) (i64_of (by omega) (by kernel_rfl)) ?_
    refine st_val (.int .i64 ((2 + ((292 * n) / 8)) + 1)) (by kernel_rfl) (i64_of (by omega) (by kernel_rfl)) ?_
    refine st_val (.int .i64 (((2 + ((292 * n) / 8)) + 1) + 2)) (by kernel_rfl) (i64_of (by omega) (by kernel_rfl)) ?_
    refine st_val (.int .i64 (((2 + ((292 * n) / 8)) + 1) + 2)) (by kernel_rfl) (by kernel_rfl) ?_
    refine wl_nil ?_
    refine hK6 _ _ ?_
    try clear hK6 K6
    refine wp_ret ?_
    exact done1 2 (.int .i64 (((2 + ((292 * n) / 8)) + 1) + 2)) (by kernel_rfl) (by kernel_rfl) (by kernel_rfl) ⟨by rw [show bsz n = 4 + 292 * n / 8 + 1 from if_pos ⟨hm1, hm2⟩, show ((2 + ((292 * n) / 8)) + 1) + 2 = 4 + 292 * n / 8 + 1 by omega], M5.toBelow⟩
  ·
    have hmn := of_decide_eq_false hmc
    refine st_callB M0 (.bool false) (by kernel_rfl) (args := #[.int .i64 n]) (run_value_call 32 #[(Operand.tmp 3)] _ rfl Try.func32 (by kernel_rfl) (by kernel_rfl) _ (by kernel_rfl)) ((by have := mayC_walk w n; rw [hmc] at this; exact this)) ?_
    intro W7 M8
    refine st_val (.bool true) (by kernel_rfl) (by kernel_rfl) ?_
    refine wl_nil ?_
    refine hK3 _ _ ?_
    try clear hK3 K3
    refine wp_cond_true (by kernel_rfl) ?_
    refine wp_seq_k (fun K9 hK9 => ?_)
    refine wl_region ?_
    refine st_val (.int .i64 0) (by kernel_rfl) (by kernel_rfl) ?_
    refine wl_nil ?_
    refine hK9 _ _ ?_
    try clear hK9 K9
    refine wp_ret ?_
    refine th_ret ?_
    exact done1 2 (.int .i64 0) (by kernel_rfl) (by kernel_rfl) (by kernel_rfl) ⟨by rw [show bsz n = 0 from if_neg hmn], M8.toBelow⟩
set_option maxHeartbeats 4000000 in
set_option maxRecDepth 100000 in
theorem refBsz_walk (w : World) (n : Int) : Calls Try.prog 16 #[.int .i64 n] w fun e w' => e = .returned (.int .i64 (bsz n)) ∧ Below w.heap.size w w' := by
  refine calls_of_wp Try.func16 rfl ?_
  refine wp_frame (a' := ⟨#[.int .i64 n, undef, undef, undef, undef, undef, undef, undef, undef, undef, undef, undef, undef, undef], []⟩) (by kernel_rfl) ?_
  have M0 : Mem NoS w w [] := Mem.start _ _
  refine wp_seq_k (fun K1 hK1 => ?_)
  refine wl_region ?_
  refine st_val (.int .i64 0) (by kernel_rfl) (by kernel_rfl) ?_
  refine wl_nil ?_
  refine hK1 _ _ ?_
  try clear hK1 K1
  refine wp_seq_k (fun K2 hK2 => ?_)
  refine wp_seq_k (fun K3 hK3 => ?_)
  refine wl_region ?_
  refine st_val (.int .i64 n) (by kernel_rfl) (by kernel_rfl) ?_
  rcases Decidable.em ((n : Int) < 1) with c4 | c4
  ·
    refine st_val (.bool true) (by kernel_rfl) (bool_of (dec_t c4) (by kernel_rfl)) ?_
    refine st_val (.bool true) (by kernel_rfl) (by kernel_rfl) ?_
    refine st_skip (by kernel_rfl) ?_
    refine st_skip (by kernel_rfl) ?_
    refine st_val (.bool true) (by kernel_rfl) (by kernel_rfl) ?_
    refine wl_nil ?_
    refine hK3 _ _ ?_
    try clear hK3 K3
    refine wp_cond_true (by kernel_rfl) ?_
    refine wp_seq_k (fun K4 hK4 => ?_)
    refine wl_region ?_
    refine st_val (.int .i64 0) (by kernel_rfl) (by kernel_rfl) ?_
    refine wl_nil ?_
    refine hK4 _ _ ?_
    try clear hK4 K4
    refine wp_ret ?_
    refine th_ret ?_
    exact done1 2 (.int .i64 0) (by kernel_rfl) (by kernel_rfl) (by kernel_rfl) ⟨by rw [show bsz n = 0 from if_neg (fun h => by have := h.1; have := h.2; omega)], M0.toBelow⟩
  ·
    refine st_val (.bool false) (by kernel_rfl) (bool_of (dec_f c4) (by kernel_rfl)) ?_
    refine st_val (.bool false) (by kernel_rfl) (by kernel_rfl) ?_
    refine st_val (.int .i64 n) (by kernel_rfl) (by kernel_rfl) ?_
    rcases Decidable.em ((n : Int) > 4) with c7 | c7
    ·
      refine st_val (.bool true) (by kernel_rfl) (bool_of (dec_t c7) (by kernel_rfl)) ?_
      refine st_val (.bool true) (by kernel_rfl) (by kernel_rfl) ?_
      refine wl_nil ?_
      refine hK3 _ _ ?_
      try clear hK3 K3
      refine wp_cond_true (by kernel_rfl) ?_
      refine wp_seq_k (fun K5 hK5 => ?_)
      refine wl_region ?_
      refine st_val (.int .i64 0) (by kernel_rfl) (by kernel_rfl) ?_
      refine wl_nil ?_
      refine hK5 _ _ ?_
      try clear hK5 K5
      refine wp_ret ?_
      refine th_ret ?_
      exact done1 2 (.int .i64 0) (by kernel_rfl) (by kernel_rfl) (by kernel_rfl) ⟨by rw [show bsz n = 0 from if_neg (fun h => by have := h.1; have := h.2; omega)], M0.toBelow⟩
    ·
      refine st_val (.bool false) (by kernel_rfl) (bool_of (dec_f c7) (by kernel_rfl)) ?_
      refine st_val (.bool false) (by kernel_rfl) (by kernel_rfl) ?_
      refine wl_nil ?_
      refine hK3 _ _ ?_
      try clear hK3 K3
      refine wp_cond_false (by kernel_rfl) ?_
      refine wp_skip ?_
      refine hK2 _ _ ?_
      try clear hK2 K2
      refine wp_seq_k (fun K6 hK6 => ?_)
      refine wl_region ?_
      refine st_val (.int .i64 n) (by kernel_rfl) (by kernel_rfl) ?_
      refine st_val (.int .i64 (292 * n)) (by kernel_rfl) (i64_of (by omega) (by kernel_rfl)) ?_
      refine st_val (.int .i64 ((292 * n) / 8)) (by kernel_rfl) (int_of (quo_of (292 * n) 8 (by omega) (by omega) (by omega)) (by kernel_rfl)) ?_
      refine st_val (.int .i64 (4 + ((292 * n) / 8))) (by kernel_rfl) (i64_of (by omega) (by kernel_rfl)) ?_
      refine st_val (.int .i64 ((4 + ((292 * n) / 8)) + 1)) (by kernel_rfl) (i64_of (by omega) (by kernel_rfl)) ?_
      refine st_val (.int .i64 ((4 + ((292 * n) / 8)) + 1)) (by kernel_rfl) (by kernel_rfl) ?_
      refine wl_nil ?_
      refine hK6 _ _ ?_
      try clear hK6 K6
      refine wp_frame (a' := ⟨#[.int .i64 n, undef, .int .i64 ((4 + ((292 * n) / 8)) + 1), .int .i64 n, .bool false, .bool false, .int .i64 n, .bool false, .bool false, .int .i64 n, .int .i64 (292 * n), .int .i64 ((292 * n) / 8), .int .i64 (4 + ((292 * n) / 8)), .int .i64 ((4 + ((292 * n) / 8)) + 1)], []⟩) (by kernel_rfl) ?_
      refine wp_ret ?_
      exact done1 2 (.int .i64 ((4 + ((292 * n) / 8)) + 1)) (by kernel_rfl) (by kernel_rfl) (by kernel_rfl) ⟨by rw [show bsz n = 4 + 292 * n / 8 + 1 from if_pos ⟨by omega, by omega⟩], M0.toBelow⟩
set_option maxHeartbeats 4000000 in
set_option maxRecDepth 100000 in
theorem half_walk (w : World) (ex : Nat) (he : ex ≤ 16) : Calls Try.prog 52 #[.int .i64 (ex : Int)] w fun e w' => e = .returned (.int .i64 ((half ex : Nat) : Int)) ∧ Below w.heap.size w w' := by
  refine calls_of_wp Try.func52 rfl ?_
  refine wp_frame (a' := ⟨#[.int .i64 ((ex : Nat) : Int), undef, undef, undef, undef, undef, undef, undef], []⟩) (by kernel_rfl) ?_
  have M0 : Mem NoS w w [] := Mem.start _ _
  refine wp_seq_k (fun K1 hK1 => ?_)
  refine wl_region ?_
  refine st_val (.int .i64 0) (by kernel_rfl) (by kernel_rfl) ?_
  refine wl_nil ?_
  refine hK1 _ _ ?_
  try clear hK1 K1
  refine wp_seq_k (fun K2 hK2 => ?_)
  refine wp_seq_k (fun K3 hK3 => ?_)
  refine wl_region ?_
  refine st_val (.int .i64 ((ex : Nat) : Int)) (by kernel_rfl) (by kernel_rfl) ?_
  rcases Decidable.em ((((ex : Nat) : Int) : Int) = 0) with c4 | c4
  ·
    refine st_val (.bool true) (by kernel_rfl) (bool_of (dec_t c4) (by kernel_rfl)) ?_
    refine wl_nil ?_
    refine hK3 _ _ ?_
    try clear hK3 K3
    refine wp_cond_true (by kernel_rfl) ?_
    refine wp_seq_k (fun K4 hK4 => ?_)
    refine wl_region ?_
    refine st_val (.int .i64 0) (by kernel_rfl) (by kernel_rfl) ?_
    refine wl_nil ?_
    refine hK4 _ _ ?_
    try clear hK4 K4
    refine wp_ret ?_
    refine th_ret ?_
    exact done1 2 (.int .i64 0) (by kernel_rfl) (by kernel_rfl) (by kernel_rfl) ⟨by rw [show half ex = 0 from if_pos (by omega)]; rfl, M0.toBelow⟩
  ·
    refine st_val (.bool false) (by kernel_rfl) (bool_of (dec_f c4) (by kernel_rfl)) ?_
    refine wl_nil ?_
    refine hK3 _ _ ?_
    try clear hK3 K3
    refine wp_cond_false (by kernel_rfl) ?_
    refine wp_skip ?_
    refine hK2 _ _ ?_
    try clear hK2 K2
    refine wp_seq_k (fun K5 hK5 => ?_)
    refine wl_region ?_
    refine st_val (.int .i64 ((ex : Nat) : Int)) (by kernel_rfl) (by kernel_rfl) ?_
    refine st_val (.int .i64 ((ex - 1 : Nat) : Int)) (by kernel_rfl) (int_of (show ((ex : Nat) : Int) - 1 = ((ex - 1 : Nat) : Int) by omega) (i64_of (by omega) (by kernel_rfl))) ?_
    refine st_val (.int .i64 ((2 ^ (ex - 1) : Nat) : Int)) (by kernel_rfl) (run_value_bin .shl 3 3 _ (.tmp 6) rfl (.int .i64 1) (.int .i64 ((ex - 1 : Nat) : Int)) _ (by kernel_rfl) (by kernel_rfl) (by kernel_rfl) (bin_shl (n := (ex - 1)) (by show _ ≤ 64; omega) (show IntKind.i64.wrap (1 * 2 ^ (ex - 1)) = ((2 ^ (ex - 1) : Nat) : Int) from wrap_k1 (ex - 1) (by omega)))) ?_
    refine st_val (.int .i64 ((2 ^ (ex - 1) : Nat) : Int)) (by kernel_rfl) (by kernel_rfl) ?_
    refine wl_nil ?_
    refine hK5 _ _ ?_
    try clear hK5 K5
    refine wp_ret ?_
    exact done1 2 (.int .i64 ((2 ^ (ex - 1) : Nat) : Int)) (by kernel_rfl) (by kernel_rfl) (by kernel_rfl) ⟨by rw [show half ex = 2 ^ (ex - 1) from if_neg (by omega)], M0.toBelow⟩
set_option maxHeartbeats 4000000 in
set_option maxRecDepth 100000 in
theorem refHalf_walk (w : World) (ex : Nat) (he : ex ≤ 16) : Calls Try.prog 41 #[.int .i64 (ex : Int)] w fun e w' => e = .returned (.int .i64 ((half ex : Nat) : Int)) ∧ Below w.heap.size w w' := by
  refine calls_of_wp Try.func41 rfl ?_
  refine wp_frame (a' := ⟨#[.int .i64 ((ex : Nat) : Int), undef, undef, undef, undef, undef, undef, undef, undef], []⟩) (by kernel_rfl) ?_
  have M0 : Mem NoS w w [] := Mem.start _ _
  refine wp_seq_k (fun K1 hK1 => ?_)
  refine wl_region ?_
  refine st_val (.int .i64 0) (by kernel_rfl) (by kernel_rfl) ?_
  refine wl_nil ?_
  refine hK1 _ _ ?_
  try clear hK1 K1
  refine wp_seq_k (fun K2 hK2 => ?_)
  refine wp_seq_k (fun K3 hK3 => ?_)
  refine wl_region ?_
  refine st_val (.int .i64 ((ex : Nat) : Int)) (by kernel_rfl) (by kernel_rfl) ?_
  rcases Decidable.em ((((ex : Nat) : Int) : Int) = 0) with c4 | c4
  ·
    refine st_val (.bool true) (by kernel_rfl) (bool_of (dec_t c4) (by kernel_rfl)) ?_
    refine wl_nil ?_
    refine hK3 _ _ ?_
    try clear hK3 K3
    refine wp_cond_true (by kernel_rfl) ?_
    refine wp_seq_k (fun K4 hK4 => ?_)
    refine wl_region ?_
    refine st_val (.int .i64 0) (by kernel_rfl) (by kernel_rfl) ?_
    refine wl_nil ?_
    refine hK4 _ _ ?_
    try clear hK4 K4
    refine wp_ret ?_
    refine th_ret ?_
    exact done1 2 (.int .i64 0) (by kernel_rfl) (by kernel_rfl) (by kernel_rfl) ⟨by rw [show half ex = 0 from if_pos (by omega)]; rfl, M0.toBelow⟩
  ·
    refine st_val (.bool false) (by kernel_rfl) (bool_of (dec_f c4) (by kernel_rfl)) ?_
    refine wl_nil ?_
    refine hK3 _ _ ?_
    try clear hK3 K3
    refine wp_cond_false (by kernel_rfl) ?_
    refine wp_skip ?_
    refine hK2 _ _ ?_
    try clear hK2 K2
    refine wp_seq_k (fun K5 hK5 => ?_)
    refine wl_region ?_
    refine st_val (.int .i64 ((ex : Nat) : Int)) (by kernel_rfl) (by kernel_rfl) ?_
    refine st_val (.int .i64 ((ex - 1 : Nat) : Int)) (by kernel_rfl) (int_of (show ((ex : Nat) : Int) - 1 = ((ex - 1 : Nat) : Int) by omega) (i64_of (by omega) (by kernel_rfl))) ?_
    refine st_val (.int .u64 ((ex - 1 : Nat) : Int)) (by kernel_rfl) (int_of (wrap_u64 (by omega)) (by kernel_rfl)) ?_
    refine st_val (.int .i64 ((2 ^ (ex - 1) : Nat) : Int)) (by kernel_rfl) (run_value_bin .shl 3 48 _ (.tmp 7) rfl (.int .i64 1) (.int .u64 ((ex - 1 : Nat) : Int)) _ (by kernel_rfl) (by kernel_rfl) (by kernel_rfl) (bin_shl (n := (ex - 1)) (by show _ ≤ 64; omega) (show IntKind.i64.wrap (1 * 2 ^ (ex - 1)) = ((2 ^ (ex - 1) : Nat) : Int) from wrap_k1 (ex - 1) (by omega)))) ?_
    refine st_val (.int .i64 ((2 ^ (ex - 1) : Nat) : Int)) (by kernel_rfl) (by kernel_rfl) ?_
    refine wl_nil ?_
    refine hK5 _ _ ?_
    try clear hK5 K5
    refine wp_ret ?_
    exact done1 2 (.int .i64 ((2 ^ (ex - 1) : Nat) : Int)) (by kernel_rfl) (by kernel_rfl) (by kernel_rfl) ⟨by rw [show half ex = 2 ^ (ex - 1) from if_neg (by omega)], M0.toBelow⟩
end Go.Proofs.Ytmimljaniliecaa
