/- The walk of the writer's Put. -/
import Derived.Test.YtmimljaniliecaaWr
namespace Go.Proofs.Ytmimljaniliecaa
open Go.RowKit Bt

theorem put_num (x : Nat) (v n : Int) (k N : Nat) (hx : x < 256) (hlow : x % 2 ^ (8 - N % 8) = 0) (hv : 0 ≤ v ∧ v < 4294967296) :
    bits .or .u8 (x : Int) (bits .and .u32 (v / 2 ^ (n.toNat - 1 - k)) 1 % 256 * 2 ^ (7 - N % 8) % 256) = ((x + v.toNat / 2 ^ (n.toNat - 1 - k) % 2 * 2 ^ (7 - N % 8) : Nat) : Int) := by
  have e : (v / 2 ^ (n.toNat - 1 - k)) = ((v.toNat / 2 ^ (n.toNat - 1 - k) : Nat) : Int) := by
    have : v = (v.toNat : Int) := by omega
    rw [Int.natCast_ediv, Int.natCast_pow, ← this]; rfl
  have hlt : v.toNat / 2 ^ (n.toNat - 1 - k) ≤ v.toNat := Nat.div_le_self _ _
  rw [e]
  generalize v.toNat / 2 ^ (n.toNat - 1 - k) = q at *
  rw [and1_u32 _ (by omega) (by omega)]
  rw [show ((q : Int) % 2 % 256) = ((q % 2 : Nat) : Int) by omega]
  exact or_bit x (q % 2) (N % 8) hx (Nat.mod_lt _ (by decide)) hlow (by omega)

/-- the loop of Put, one round behind the begin of a byte: the state that it meets -/
theorem put_closes {w w1 : World} {S S1 : Nat → Prop} {g gb m cap N k : Nat} {cur : Array Value} {l L P : List Nat} {v n : Int}
    (hb : w1.heap[g]? = some (.cells #[.slice (some ⟨gb, 0, none⟩) m cap, .int .i64 N] 78 (0, 0)))
    (hgb : w1.heap[gb]? = some (.cells cur 5 (0, 0))) (hcap : m ≤ cap) (hcm : cap ≤ maxLen) (hcs : cur.size = cap * 1) (htake : cur.toList.take (m * 1) = u8s P) (hbin : Bin L) (hg : S1 g) (hgS : S1 gb) (hne : gb ≠ g)
    (hlt : ∀ k, S1 k → k < w1.heap.size) (hN : N = L.length) (hm : P.length = m) (hS1 : ∀ k, S1 k → S k ∨ w.heap.size ≤ k) (hK : Keep S w w1)
    (hv : 0 ≤ v ∧ v < 4294967296) (hk : k < n.toNat) (hL : L = l ++ (bitsOf v.toNat n.toNat).take k) (hP : ∀ b, packed (L ++ [b]) = P.set (N / 8) (byteAt L (N / 8) + b * 2 ^ (7 - N % 8))) :
    (∃ S', IsW ((w1.setCell ⟨gb, N / 8, none⟩ (.int .u8 (bits .or .u8 (byteAt L (N / 8) : Nat) (bits .and .u32 (v / 2 ^ (n.toNat - 1 - k)) 1 % 256 * 2 ^ (7 - N % 8) % 256)))).setCell ⟨g, 1, none⟩ (.int .i64 ((N : Int) + 1))).drew S' g (l ++ (bitsOf v.toNat n.toNat).take (k + 1)) ∧ (∀ k, S' k → S k ∨ w.heap.size ≤ k)) ∧
    Keep S w ((w1.setCell ⟨gb, N / 8, none⟩ (.int .u8 (bits .or .u8 (byteAt L (N / 8) : Nat) (bits .and .u32 (v / 2 ^ (n.toNat - 1 - k)) 1 % 256 * 2 ^ (7 - N % 8) % 256)))).setCell ⟨g, 1, none⟩ (.int .i64 ((N : Int) + 1))).drew := by
  rw [put_num _ v n k N (byteAt_lt hbin _) (by rw [hN]; exact byteAt_low L) hv]
  refine ⟨⟨S1, ?_, hS1⟩, ((hK.setCell (by exact hS1 gb hgS) _).setCell (by exact hS1 g hg) _).drew⟩
  rw [take_bits _ _ _ hk, ← List.append_assoc, ← hL]
  exact stepW hb hgb hcap hcm hcs htake hbin (by omega) hg hgS hne hlt hN (hP _) hm

set_option maxHeartbeats 1000000 in
theorem wPut (w : World) (S : Nat → Prop) (g : Nat) (l : List Nat) (v n : Int) (h : IsW w S g l) (hl : l.length ≤ 1000000000) (hv : 0 ≤ v ∧ v < 4294967296) (hn : 0 ≤ n ∧ n ≤ 32) (hr : v / 2 ^ n.toNat ≤ 0) :
    Calls Try.prog 45 #[.pointer (some ⟨g, 0, none⟩), .int .u32 v, .int .i64 n] w fun e w' => e = .returned (.int .i64 0) ∧
      ∃ S', IsW w' S' g (l ++ bitsOf v.toNat n.toNat) ∧ (∀ k, S' k → S k ∨ w.heap.size ≤ k) ∧ Keep S w w' := by
  obtain ⟨i0, hi, hz0, hz1, hz2⟩ := info_parts info_u8
  go_enter Try.func45, Try.ntmps45
  go_wp2
  go_loopw [27] (fun s wr => ∃ k : Nat, k ≤ n.toNat ∧ s = .int .i64 k ∧ (∃ S', IsW wr S' g (l ++ (bitsOf v.toNat n.toNat).take k) ∧ (∀ k, S' k → S k ∨ w.heap.size ≤ k)) ∧ Keep S w wr) (fun s _ => n.toNat - (intOf s).toNat)
  case atStart => exact ⟨0, Nat.zero_le _, rfl, ⟨S, by simpa using h, fun _ hk => .inl hk⟩, Keep.refl _ _⟩
  case round =>
    obtain ⟨k, hk, rfl, ⟨S', hW, hS'⟩, hK⟩ := hrel
    by_cases hlt : (k : Int) < n
    · obtain ⟨vs, hb, hown, hbin, hg, hvs, hlt'⟩ := hW
      obtain ⟨L, hL⟩ : ∃ L, L = l ++ (bitsOf v.toNat n.toNat).take k := ⟨_, rfl⟩
      have hLen : L.length = l.length + k := by rw [hL]; simp [bitsOf_length]; omega
      rw [← hL] at hb hown hbin
      have HL := Lib.hid hLen; clear hLen
      have HLL := Lib.hid hL; clear hL
      obtain ⟨N, hN⟩ : ∃ N, N = L.length := ⟨_, rfl⟩
      rw [← hN] at hb
      have hLb : N ≤ 1000000032 := by have := HL.out; omega
      have HN := Lib.hid hN; clear hN
      have hk32 : (k : Int) < 32 := by omega
      have f1 : wr.frozen? ⟨g, 1, none⟩ = false := frozen_of_row hb _
      by_cases h8 : N % 8 = 0
      · have h8b : ((N : Int) % 8 == 0) = true := by simp; omega
        have c0 : wr.cell? ⟨g, 0, none⟩ = some vs := cell_of_row _ _ _ _ _ _ hb
        have f0 : wr.frozen? ⟨g, 0, none⟩ = false := frozen_of_row hb _
        have c1 : wr.cell? ⟨g, 1, none⟩ = some (.int .i64 N) := cell_of_row _ _ _ _ _ _ hb
        have HB := Lib.hid hb; clear hb
        have HO := Lib.hid hown
        go_wp2_with (at_builtin; refine wpList_append_mine _ rfl (.tmp 40) (.tmp 41) 22 rfl 5 i0 (.int .u8 0) 1 1 Try.underlying22 hi hz0 hz1 hz2 rfl (by decide) vs (packed L).length (u8s (packed L)) rfl ?h1 ⟨wr.heap.size, 0, none⟩ 1 1 [.int .u8 0] rfl rfl ?h2 ?h3 ?h4 ?h5 ?h6)
        case h1 => exact own_keep hown ((Keep.refl (fun _ => False) _).alloc _) (fun _ _ h => h)
        case h2 => exact one_new
        case h3 => intro u hu; simp at hu; subst hu; rfl
        case h4 => have := HN.out; have := packed_length L; unfold maxLen; omega
        case h5 => have := HN.out; have := packed_length L; omega
        case h6 =>
          intro v' w1 hown1 hgr hblk hsh
          have hb := HB.out
          have hpl : (packed L).length = N / 8 := by have := HN.out; rw [packed_length]; omega
          have hgl : g < wr.heap.size := heap_lt hb
          obtain ⟨gb, cap, rfl⟩ := hsh (by decide)
          have hgb2 : (S' gb ∨ gb = wr.heap.size + 1) ∧ gb ≠ g := by
            rcases hblk with h | h
            · have := hvs gb (by rw [← h]; rfl)
              exact ⟨.inl this.1, this.2⟩
            · simp [Value.ownBlock] at h
              exact ⟨.inr h, by omega⟩
          have hb1 : w1.heap[g]? = some (.cells #[vs, .int .i64 N] 78 (0, 0)) := by
            rw [hgr.block g (by simp; omega) (fun e => (hvs g e.symm).2 rfl), Below.heap_alloc _ _ _ hgl]; exact hb
          obtain ⟨cur, hgb, hcap, hcm, hcs, htake⟩ : ∃ cur, w1.heap[gb]? = some (.cells cur 5 (0, 0)) ∧ (packed L).length + 1 ≤ cap ∧ cap ≤ maxLen ∧ cur.size = cap * 1 ∧ cur.toList.take (((packed L).length + 1) * 1) = u8s (packed L ++ [0]) := by
            rcases hown1.2 with ⟨h, _⟩ | ⟨gb', cap', cur, h1, _, h2, h3, h4, h5, h6⟩
            · cases h
            · cases h1
              exact ⟨cur, h2, h3, h4, h5, by rw [h6]; simp [u8s]⟩
          have c0' : w1.cell? ⟨g, 0, none⟩ = some vs := cell_of_row _ _ _ _ _ _ hb1
          have c1' : w1.cell? ⟨g, 1, none⟩ = some (.int .i64 N) := cell_of_row _ _ _ _ _ _ hb1
          have f0' : w1.frozen? ⟨g, 0, none⟩ = false := frozen_of_row hb1 _
          have f1' : w1.frozen? ⟨g, 1, none⟩ = false := frozen_of_row hb1 _
          have hb2 : (w1.setCell ⟨g, 0, none⟩ (.slice (some ⟨gb, 0, none⟩) ((packed L).length + 1) cap)).heap[g]? = some (.cells #[.slice (some ⟨gb, 0, none⟩) ((packed L).length + 1) cap, .int .i64 N] 78 (0, 0)) := by
            rw [setCell_heap_at hb1]; rfl
          have hgb3 : (w1.setCell ⟨g, 0, none⟩ (.slice (some ⟨gb, 0, none⟩) ((packed L).length + 1) cap)).heap[gb]? = some (.cells cur 5 (0, 0)) := by
            rw [Below.heap_setCell _ _ _ _ hgb2.2]; exact hgb
          have hsz : wr.heap.size + 1 ≤ w1.heap.size := by have := hgr.size; simpa using this
          have hK1 : Keep S w (w1.setCell ⟨g, 0, none⟩ (.slice (some ⟨gb, 0, none⟩) ((packed L).length + 1) cap)) :=
            ((hK.alloc _).grown hgr (fun i hi => hS' i (hvs i hi).1)).setCell (hS' g hg) _
          have hx0 : byteAt L (N / 8) = 0 := byteAt_past _ _ (by have := HN.out; omega)
          have fin := put_closes (n := n) (v := v) (S1 := fun k => S' k ∨ k = gb) hb2 hgb3 hcap hcm hcs htake hbin (.inl hg) (.inr rfl) hgb2.2
            (by intro k hk; rcases hk with hk | rfl
                · have := hlt' k hk; simp [World.setCell]; omega
                · have := heap_lt hgb; simpa [World.setCell] using this)
            HN.out (by simp) (by intro k hk; rcases hk with hk | rfl
                                 · exact hS' k hk
                                 · rcases hgb2.1 with h | h
                                   · exact hS' _ h
                                   · have := hK.size; right; omega) hK1 hv (by omega) HLL.out
            (fun b => by
              rw [packed_snoc_new L b (by rw [← HN.out]; exact h8), hx0, h8, ← hpl]
              simp)
          have cx : w1.cell? ⟨gb, N / 8, none⟩ = some (.int .u8 0) := by
            rw [cell_of_row _ _ _ _ _ _ hgb]
            have h1 : (cur.toList.take (((packed L).length + 1) * 1))[N / 8]? = (u8s (packed L ++ [0]))[N / 8]? := by rw [htake]
            rw [List.getElem?_take, if_pos (by omega)] at h1
            rw [← Array.getElem?_toList, h1, ← hpl]
            simp [u8s]
          have fx : w1.frozen? ⟨gb, N / 8, none⟩ = false := frozen_of_row hgb _
          have hgg : gb ≠ g := hgb2.2
          rw [hx0, h8, show ((2 : Int) ^ (7 - 0)) = 128 from rfl] at fin
          have hjm : N / 8 < (packed L).length + 1 := by omega
          have hjm2 : (N : Int) / 8 < ((packed L).length : Int) + 1 := by omega
          have HF := Lib.hid fin; clear fin
          have HV := Lib.hid hvs; clear hvs
          generalize (packed L).length = m at *
          clear hb hb1 hb2 hgb3 hgb hown1 hbin hcs htake hcm hx0 hpl hgr hblk hsh hown HO hgb2 hK1 c0 c1 f0 f1 hsz
          go_wp2_with fail
          go_region
          go_wp2
          go_roundw
          case rel => exact ⟨k + 1, by omega, by go_num, HF.out⟩
          case measure => simp [intOf]; omega
      · have h8b : ((N : Int) % 8 == 0) = false := by simp; omega
        obtain ⟨m, hm⟩ : ∃ m, m = (packed L).length := ⟨_, rfl⟩
        have hm8 : m = (N + 7) / 8 := by rw [hm, packed_length, HN.out]
        rw [← hm] at hown
        obtain ⟨gb, cap, cur, rfl, hgb, hcap, hcm, hcs, htake⟩ : ∃ gb cap cur, vs = .slice (some ⟨gb, 0, none⟩) m cap ∧ wr.heap[gb]? = some (.cells cur 5 (0, 0)) ∧ m ≤ cap ∧ cap ≤ maxLen ∧ cur.size = cap * 1 ∧ cur.toList.take (m * 1) = u8s (packed L) := by
          rcases hown.2 with ⟨_, h0⟩ | ⟨gb, cap, cur, h1, _, h2, h3, h4, h5, h6⟩
          · omega
          · exact ⟨gb, cap, cur, h1, h2, h3, h4, h5, h6⟩
        have c0 : wr.cell? ⟨g, 0, none⟩ = some (.slice (some ⟨gb, 0, none⟩) m cap) := cell_of_row _ _ _ _ _ _ hb
        have c1 : wr.cell? ⟨g, 1, none⟩ = some (.int .i64 N) := cell_of_row _ _ _ _ _ _ hb
        have hjm : N / 8 < m := by omega
        have hjm2 : (N : Int) / 8 < m := by omega
        have cx : wr.cell? ⟨gb, N / 8, none⟩ = some (.int .u8 (byteAt L (N / 8) : Nat)) := by
          rw [cell_of_row _ _ _ _ _ _ hgb]
          exact row_at htake (by rw [packed_length, ← HN.out]; omega) (by omega)
        have fx : wr.frozen? ⟨gb, N / 8, none⟩ = false := frozen_of_row hgb _
        have hgg : gb ≠ g := (hvs gb rfl).2
        have fin := put_closes (n := n) (v := v) hb hgb hcap hcm hcs htake hbin hg (hvs gb rfl).1 hgg hlt' HN.out hm.symm hS' hK hv (by omega) HLL.out (fun b => by rw [HN.out]; exact packed_snoc_open L b (by rw [← HN.out]; exact h8))
        obtain ⟨x, hx⟩ : ∃ x, x = byteAt L (N / 8) := ⟨_, rfl⟩
        rw [← hx] at cx fin
        have HF := Lib.hid fin; clear fin
        clear hx hb hgb hown hbin hcs htake hcm hvs hm hm8
        go_wp2_with fail
        go_region
        go_wp2
        go_roundw
        case rel => exact ⟨k + 1, by omega, by go_num, HF.out⟩
        case measure => simp [intOf]; omega
    · obtain rfl : k = n.toNat := by omega
      go_wp2
      go_ret
      rw [List.take_of_length_le (by rw [bitsOf_length]; exact Nat.le_refl _)] at hW
      exact ⟨rfl, S', hW, hS', hK⟩
end Go.Proofs.Ytmimljaniliecaa
