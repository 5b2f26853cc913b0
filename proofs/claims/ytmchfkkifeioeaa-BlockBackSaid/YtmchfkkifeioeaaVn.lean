/- How many bits a number has. -/
import Derived.Test.YtmchfkkifeioeaaObj
import Derived.Test.YtmchfkkifeioeaaVp
import Derived.Test.YtmchfkkifeioeaaU
namespace Go.Proofs.Ytmchfkkifeioeaa
open Go.RowKit Bt

theorem wrap_u8 {e : Int} (h : 0 ≤ e ∧ e ≤ 255) : IntKind.u8.wrap e = e := by
  simp only [IntKind.wrap, IntKind.bits, IntKind.signed]
  simp
  omega
theorem wrap_u32 {e : Int} (h : 0 ≤ e ∧ e ≤ 4294967295) : IntKind.u32.wrap e = e := by
  simp only [IntKind.wrap, IntKind.bits, IntKind.signed]
  simp
  omega
theorem i64_or_nat (a b : Nat) (ha : a < 4611686018427387904) (hb : b < 4611686018427387904) : bits .or .i64 (a : Int) (b : Int) = ((a ||| b : Nat) : Int) := by
  have hx : a ||| b < 2 ^ 62 := Nat.or_lt_two_pow (by omega) (by omega)
  show IntKind.i64.wrap ((BitVec.ofInt 64 (a : Int) ||| BitVec.ofInt 64 (b : Int)).toNat : Int) = _
  have h64 : ∀ x : Nat, x < 4611686018427387904 → (BitVec.ofInt 64 (x : Int)).toNat = x := fun x hx => by
    rw [BitVec.ofInt_natCast, BitVec.toNat_ofNat]; exact Nat.mod_eq_of_lt (by omega)
  rw [BitVec.toNat_or, h64 a ha, h64 b hb]
  exact i64_wrap (by omega)
/-- how many bits a number has -/
def lenN (x : Nat) : Nat := if x = 0 then 0 else x.log2 + 1
theorem lenN_pos (v : Nat) : lenN (v + 1) = kOf v + 1 := by unfold lenN kOf; rw [if_neg (by omega)]
theorem lenN_le {x : Nat} (h : x < 256) : lenN x ≤ 8 := by
  unfold lenN
  split
  · omega
  · have h1 := Nat.log2_self_le (n := x) (by omega)
    rcases Nat.lt_or_ge x.log2 8 with h2 | h2
    · omega
    · have : 2 ^ 8 ≤ 2 ^ x.log2 := Nat.pow_le_pow_right (by decide) h2
      omega
theorem lenN_div {x : Nat} (h : 256 ≤ x) : lenN x = 8 + lenN (x / 256) := by
  obtain ⟨v, rfl⟩ : ∃ v, x = v + 1 := ⟨x - 1, by omega⟩
  obtain ⟨u, hu⟩ : ∃ u, (v + 1) / 256 = u + 1 := ⟨(v + 1) / 256 - 1, by omega⟩
  rw [hu, lenN_pos, lenN_pos]
  obtain ⟨h1, h2⟩ := kOf_spec u
  have e : kOf v = kOf u + 8 := by
    apply kOf_of
    · rw [Nat.pow_add]; omega
    · rw [show kOf u + 8 + 1 = (kOf u + 1) + 8 by omega, Nat.pow_add]; omega
  omega
/-- the table of the lengths of bytes -/
def lenTab : ByteArray := ⟨((List.range 256).map fun n => UInt8.ofNat (lenN n)).toArray⟩
theorem lenTab_at (n : Nat) (h : n < 256) : lenTab[n]? = some (UInt8.ofNat (lenN n)) := by
  have hs : n < lenTab.size := by show n < (((List.range 256).map fun n => UInt8.ofNat (lenN n)).toArray).size; simpa using h
  rw [getElem?_pos lenTab n hs]
  congr 1
  have hd : lenTab.data = ((List.range 256).map fun n => UInt8.ofNat (lenN n)).toArray := rfl
  have h2 : lenTab[n] = lenTab.data[n]'hs := rfl
  rw [h2]
  simp only [hd]
  simp
theorem lenTab_val (n : Nat) (h : n < 256) : (((UInt8.ofNat (lenN n)).toNat : Nat) : Int) = ((lenN n : Nat) : Int) := by
  have := lenN_le h
  rw [UInt8.toNat_ofNat', Nat.mod_eq_of_lt (by omega)]
theorem wrap_kz (k : Nat) (h : k ≤ 16) : IntKind.i64.wrap (2 * 2 ^ k) = ((2 ^ (k + 1) : Nat) : Int) := by
  have h1 : (2 : Nat) ^ k ≤ 2 ^ 16 := Nat.pow_le_pow_right (by decide) h
  have e : (2 : Int) * 2 ^ k = ((2 ^ (k + 1) : Nat) : Int) := by rw [Nat.pow_succ, Int.natCast_mul, Int.natCast_pow, Int.mul_comm]; rfl
  rw [e]
  apply i64_wrap
  rw [Nat.pow_succ]
  generalize (2 : Nat) ^ k = z at *
  omega
theorem wrap_k1 (k : Nat) (h : k ≤ 16) : IntKind.i64.wrap (1 * 2 ^ k) = ((2 ^ k : Nat) : Int) := by
  have h1 : (2 : Nat) ^ k ≤ 2 ^ 16 := Nat.pow_le_pow_right (by decide) h
  have e : (1 : Int) * 2 ^ k = ((2 ^ k : Nat) : Int) := by rw [Int.one_mul, Int.natCast_pow]; rfl
  rw [e]
  apply i64_wrap
  generalize (2 : Nat) ^ k = z at *
  omega
theorem or_low (k r : Nat) (hk : k ≤ 16) (hr : r < 2 ^ k) : bits .or .i64 ((2 ^ k : Nat) : Int) (r : Int) = ((2 ^ k + r : Nat) : Int) := by
  have h1 : (2 : Nat) ^ k ≤ 2 ^ 16 := Nat.pow_le_pow_right (by decide) hk
  rw [i64_or_nat _ _ (by omega) (by omega), nat_join k _ _ (by rw [Nat.mod_self]) hr]
set_option maxHeartbeats 4000000 in
set_option maxRecDepth 100000 in
theorem len64_walk (w : World) (x : Nat) (h : x < 65536) : Calls Try.prog 51 #[.int .u64 (x : Int)] w fun e w' => e = .returned (.int .i64 ((lenN x : Nat) : Int)) ∧ Below w.heap.size w w' := by
  refine calls_of_wp Try.func51 rfl ?_
  refine wp_frame (a' := ⟨#[.int .u64 (x : Int), undef, undef, undef, undef, undef, undef, undef, undef, undef, undef, undef, undef, undef, undef, undef, undef, undef, undef, undef, undef, undef, undef, undef, undef], []⟩) (by kernel_rfl) ?_
  have M0 : Mem NoS w w [] := Mem.start _ _
  refine wp_seq_k (fun K1 hK1 => ?_)
  refine wl_region ?_
  refine st_val (.int .i64 0) (by kernel_rfl) (by kernel_rfl) ?_
  refine wl_nil ?_
  refine hK1 _ _ ?_
  try clear hK1 K1
  refine wp_seq_k (fun K2 hK2 => ?_)
  refine wp_seq_k (fun K3 hK3 => ?_)
  refine wl_region ?_
  refine st_val (.int .u64 (x : Int)) (by kernel_rfl) (by kernel_rfl) ?_
  refine st_val (.bool false) (by kernel_rfl) (bool_of (dec_f (show ¬ (((x : Int) : Int) ≥ 4294967296) by omega)) (by kernel_rfl)) ?_
  refine wl_nil ?_
  refine hK3 _ _ ?_
  try clear hK3 K3
  refine wp_cond_false (by kernel_rfl) ?_
  refine wp_skip ?_
  refine hK2 _ _ ?_
  try clear hK2 K2
  refine wp_seq_k (fun K4 hK4 => ?_)
  refine wp_seq_k (fun K5 hK5 => ?_)
  refine wl_region ?_
  refine st_val (.int .u64 (x : Int)) (by kernel_rfl) (by kernel_rfl) ?_
  refine st_val (.bool false) (by kernel_rfl) (bool_of (dec_f (show ¬ (((x : Int) : Int) ≥ 65536) by omega)) (by kernel_rfl)) ?_
  refine wl_nil ?_
  refine hK5 _ _ ?_
  try clear hK5 K5
  refine wp_cond_false (by kernel_rfl) ?_
  refine wp_skip ?_
  refine hK4 _ _ ?_
  try clear hK4 K4
  refine wp_seq_k (fun K6 hK6 => ?_)
  refine wp_seq_k (fun K7 hK7 => ?_)
  refine wl_region ?_
  refine st_val (.int .u64 (x : Int)) (by kernel_rfl) (by kernel_rfl) ?_
  rcases Decidable.em (((x : Int) : Int) ≥ 256) with c14 | c14
  ·
    refine st_val (.bool true) (by kernel_rfl) (bool_of (dec_t c14) (by kernel_rfl)) ?_
    refine wl_nil ?_
    refine hK7 _ _ ?_
    try clear hK7 K7
    refine wp_cond_true (by kernel_rfl) ?_
    refine wp_seq_k (fun K8 hK8 => ?_)
    refine wl_region ?_
    refine st_val (.int .u64 (x : Int)) (by kernel_rfl) (by kernel_rfl) ?_
    refine st_val (.int .u64 ((x / 256 : Nat) : Int)) (by kernel_rfl) (int_of (show (x : Int) / 2 ^ 8 = ((x / 256 : Nat) : Int) from (by omega)) (run_value_bin .shr 76 63 (.tmp 15) _ rfl (.int .u64 (x : Int)) (.int .u64 8) _ (by kernel_rfl) (by kernel_rfl) (by kernel_rfl) (bin_shr (n := 8) (by decide)))) ?_
    refine st_val (.int .u64 ((x / 256 : Nat) : Int)) (by kernel_rfl) (by kernel_rfl) ?_
    refine wl_nil ?_
    refine hK8 _ _ ?_
    try clear hK8 K8
    refine wl_region ?_
    refine st_val (.int .i64 0) (by kernel_rfl) (by kernel_rfl) ?_
    refine st_val (.int .i64 8) (by kernel_rfl) (by kernel_rfl) ?_
    refine st_val (.int .i64 8) (by kernel_rfl) (by kernel_rfl) ?_
    refine wl_nil ?_
    refine hK6 _ _ ?_
    try clear hK6 K6
    refine wp_frame (a' := ⟨#[.int .u64 ((x / 256 : Nat) : Int), undef, .int .i64 8, .int .u64 (x : Int), .bool false, undef, undef, .int .u64 (x : Int), .bool false, undef, undef, undef, undef, .int .u64 (x : Int), .bool true, .int .u64 (x : Int), .int .u64 ((x / 256 : Nat) : Int), .int .i64 0, .int .i64 8, undef, undef, undef, undef, undef, undef], []⟩) (by kernel_rfl) ?_
    refine wp_seq_k (fun K9 hK9 => ?_)
    have hlen := lenN_le (x := x / 256) (by omega)
    refine wl_region ?_
    refine st_val (.int .i64 8) (by kernel_rfl) (by kernel_rfl) ?_
    refine st_val (.int .u64 ((x / 256 : Nat) : Int)) (by kernel_rfl) (by kernel_rfl) ?_
    refine st_val (.int .u8 ((x / 256 : Nat) : Int)) (by kernel_rfl) (int_of (wrap_u8 (by omega)) (by kernel_rfl)) ?_
    refine st_val (.int .u8 ((lenN (x / 256) : Nat) : Int)) (by kernel_rfl) (run_indexStr 9 _ (.tmp 21) rfl lenTab .u8 (x / 256) (UInt8.ofNat (lenN (x / 256))) (by kernel_rfl) (by kernel_rfl) (by kernel_rfl) (lenTab_at _ (by omega)) _ (lenTab_val _ (by omega))) ?_
    refine st_val (.int .i64 ((lenN (x / 256) : Nat) : Int)) (by kernel_rfl) (i64_of (by omega) (by kernel_rfl)) ?_
    refine st_val (.int .i64 (8 + ((lenN (x / 256) : Nat) : Int))) (by kernel_rfl) (i64_of (by omega) (by kernel_rfl)) ?_
    refine st_val (.int .i64 (8 + ((lenN (x / 256) : Nat) : Int))) (by kernel_rfl) (by kernel_rfl) ?_
    refine wl_nil ?_
    refine hK9 _ _ ?_
    try clear hK9 K9
    refine wp_ret ?_
    exact done1 2 (.int .i64 (8 + ((lenN (x / 256) : Nat) : Int))) (by kernel_rfl) (by kernel_rfl) (by kernel_rfl) ⟨by rw [show 8 + ((lenN (x / 256) : Nat) : Int) = ((lenN x : Nat) : Int) by have := lenN_div (x := x) (by omega); omega], M0.toBelow⟩
  ·
    refine st_val (.bool false) (by kernel_rfl) (bool_of (dec_f c14) (by kernel_rfl)) ?_
    refine wl_nil ?_
    refine hK7 _ _ ?_
    try clear hK7 K7
    refine wp_cond_false (by kernel_rfl) ?_
    refine wp_skip ?_
    refine hK6 _ _ ?_
    try clear hK6 K6
    refine wp_seq_k (fun K10 hK10 => ?_)
    have hlen := lenN_le (x := x) (by omega)
    refine wl_region ?_
    refine st_val (.int .i64 0) (by kernel_rfl) (by kernel_rfl) ?_
    refine st_val (.int .u64 (x : Int)) (by kernel_rfl) (by kernel_rfl) ?_
    refine st_val (.int .u8 (x : Int)) (by kernel_rfl) (int_of (wrap_u8 (by omega)) (by kernel_rfl)) ?_
    refine st_val (.int .u8 ((lenN x : Nat) : Int)) (by kernel_rfl) (run_indexStr 9 _ (.tmp 21) rfl lenTab .u8 x (UInt8.ofNat (lenN x)) (by kernel_rfl) (by kernel_rfl) (by kernel_rfl) (lenTab_at _ (by omega)) _ (lenTab_val _ (by omega))) ?_
    refine st_val (.int .i64 ((lenN x : Nat) : Int)) (by kernel_rfl) (i64_of (by omega) (by kernel_rfl)) ?_
    refine st_val (.int .i64 (0 + ((lenN x : Nat) : Int))) (by kernel_rfl) (i64_of (by omega) (by kernel_rfl)) ?_
    refine st_val (.int .i64 (0 + ((lenN x : Nat) : Int))) (by kernel_rfl) (by kernel_rfl) ?_
    refine wl_nil ?_
    refine hK10 _ _ ?_
    try clear hK10 K10
    refine wp_frame (a' := ⟨#[.int .u64 (x : Int), undef, .int .i64 (0 + ((lenN x : Nat) : Int)), .int .u64 (x : Int), .bool false, undef, undef, .int .u64 (x : Int), .bool false, undef, undef, undef, undef, .int .u64 (x : Int), .bool false, undef, undef, undef, undef, .int .i64 0, .int .u64 (x : Int), .int .u8 (x : Int), .int .u8 ((lenN x : Nat) : Int), .int .i64 ((lenN x : Nat) : Int), .int .i64 (0 + ((lenN x : Nat) : Int))], []⟩) (by kernel_rfl) ?_
    refine wp_ret ?_
    exact done1 2 (.int .i64 (0 + ((lenN x : Nat) : Int))) (by kernel_rfl) (by kernel_rfl) (by kernel_rfl) ⟨by rw [show 0 + ((lenN x : Nat) : Int) = ((lenN x : Nat) : Int) by omega], M0.toBelow⟩
set_option maxHeartbeats 4000000 in
set_option maxRecDepth 100000 in
theorem len_walk (w : World) (x : Nat) (h : x < 65536) : Calls Try.prog 43 #[.int .u64 (x : Int)] w fun e w' => e = .returned (.int .i64 ((lenN x : Nat) : Int)) ∧ Below w.heap.size w w' := by
  refine calls_of_wp Try.func43 rfl ?_
  refine wp_frame (a' := ⟨#[.int .u64 (x : Int), undef, undef, undef, undef, undef, undef, undef], []⟩) (by kernel_rfl) ?_
  have M0 : Mem NoS w w [] := Mem.start _ _
  refine wp_seq_k (fun K1 hK1 => ?_)
  refine wl_region ?_
  refine st_val (.int .i64 0) (by kernel_rfl) (by kernel_rfl) ?_
  refine wl_nil ?_
  refine hK1 _ _ ?_
  try clear hK1 K1
  refine wp_seq_k (fun K2 hK2 => ?_)
  refine wp_cond_false (by kernel_rfl) ?_
  refine wp_skip ?_
  refine hK2 _ _ ?_
  try clear hK2 K2
  refine wp_seq_k (fun K3 hK3 => ?_)
  refine wl_region ?_
  refine st_val (.int .u64 (x : Int)) (by kernel_rfl) (by kernel_rfl) ?_
  refine st_callB M0 (.int .i64 ((lenN x : Nat) : Int)) (by kernel_rfl) (args := #[.int .u64 (x : Int)]) (run_value_call 51 #[(Operand.tmp 6)] _ rfl Try.func51 (by kernel_rfl) (by kernel_rfl) _ (by kernel_rfl)) (len64_walk w x h) ?_
  intro W4 M5
  refine st_val (.int .i64 ((lenN x : Nat) : Int)) (by kernel_rfl) (by kernel_rfl) ?_
  refine wl_nil ?_
  refine hK3 _ _ ?_
  try clear hK3 K3
  refine wp_ret ?_
  exact done1 2 (.int .i64 ((lenN x : Nat) : Int)) (by kernel_rfl) (by kernel_rfl) (by kernel_rfl) ⟨rfl, M5.toBelow⟩
end Go.Proofs.Ytmchfkkifeioeaa
