/- The walks of the reference: Payload, SameBytes, the reader. -/
import Derived.Test.YtmimljaniliecaaErr
namespace Go.Proofs.Ytmimljaniliecaa
open Go.RowKit Bt

set_option maxHeartbeats 400000 in
theorem payload_walk (w : World) (v : Value) (l : List Nat) (h : Rd w v (u8s l)) (hb : Bin l) (hl : l.length ≤ 1000000000) : Calls Try.prog 51 #[v] w (Fresh w (payload l).length (u8s (payload l))) := by
  obtain ⟨i0, hi, hz0, hz1, hz2⟩ := info_parts info_u8
  obtain ⟨A, c, rfl, hc, hx⟩ := h.shape
  clear h
  rw [u8s_length] at hc ⊢
  obtain ⟨n, hn⟩ : ∃ n, n = l.length := ⟨_, rfl⟩
  rw [← hn] at hc hl ⊢
  have HN := Lib.hid hn; clear hn
  have HX := Lib.hid hx; clear hx
  go_enter Try.func51, Try.ntmps51
  go_wp2_with (at_make; refine wpList_make_full _ rfl _ _ 22 rfl w.heap.size 5 i0 (.int .u8 0) 1 Try.underlying22 hi hz0 hz1 .i64 .i64 _ _ (n / 8 + 1) rfl rfl ?h1 ?h2 ?h3 ?h4 ?h5 ?h6)
  case h1 => omega
  case h2 => omega
  case h3 => rw [hz2]; omega
  case h4 => unfold maxLen; omega
  case h5 => omega
  case h6 =>
    intro w1 hown hgr
    obtain ⟨L, hL⟩ : ∃ L, L = l ++ [1] := ⟨_, rfl⟩
    have hLn : L.length = n + 1 := by rw [hL]; simp [HN.out]
    have hLb : Bin L := by rw [hL]; exact bin_append hb (by intro x hx; simp at hx; omega)
    have hgB : Below w.heap.size w w1 := (Below.refl _ _).grown hgr (Nat.le_refl _) (by intro k hk; cases hk)
    have hG : w1.heap[w.heap.size]? = some (.cells (u8s (pcs L (n / 8 + 1) 0)).toArray 5 (0, 0)) := by
      rcases hown.2 with ⟨h, _⟩ | ⟨gb, cap, cur, h1, _, h2, h3, h4, h5, h6⟩
      · cases h
      · cases h1
        rw [h2, pcs_zero]
        have : cur = (u8s (List.replicate (n / 8 + 1) 0)).toArray := by
          apply Array.toList_inj.1
          rw [← List.take_of_length_le (l := cur.toList) (i := (n / 8 + 1) * 1) (by simp; omega), h6]
          rw [made1]; simp [u8s]
        rw [this]
    have HLn := Lib.hid hLn; clear hLn
    have HL := Lib.hid hL; clear hL
    have HLb := Lib.hid hLb; clear hLb
    clear hown hgr
    go_wp2
    go_loopw [4] (fun t wr => ∃ i : Nat, i ≤ n + 1 ∧ t = .int .i64 i ∧ wr.heap[w.heap.size]? = some (.cells (u8s (pcs L (n / 8 + 1) i)).toArray 5 (0, 0)) ∧ Below w.heap.size w wr) (fun t _ => n + 1 - (intOf t).toNat)
    case atStart => exact ⟨0, Nat.zero_le _, rfl, hG, hgB⟩
    case round =>
      clear hG hgB
      obtain ⟨i, hin, rfl, hG, hB⟩ := hrel
      by_cases hi1 : i ≤ n
      · have hbit : (i = n ∧ L.getD i 0 = 1) ∨ (i < n ∧ L.getD i 0 ≤ 1 ∧ ∃ b off, A = some ⟨b, off, none⟩ ∧ wr.cell? ⟨b, off + i, none⟩ = some (.int .u8 (L.getD i 0 : Nat))) := by
          by_cases e : i = n
          · left; refine ⟨e, ?_⟩
            rw [HL.out, getD_snoc, if_neg (by rw [← HN.out]; omega), if_pos (by rw [← HN.out]; exact e)]
          · right
            obtain ⟨b, off, hA, hx0⟩ := HX.out i (.int .u8 (L.getD i 0 : Nat)) (by
              rw [HL.out, getD_snoc, if_pos (by rw [← HN.out]; omega)]
              simp [u8s, List.getElem?_eq_getElem (show i < l.length by rw [← HN.out]; omega)])
            exact ⟨by omega, bin_getD HLb.out i, b, off, hA, (hB.cell (p := ⟨b, off + i, none⟩) (World.block_lt_of_cell? _ _ hx0)).trans hx0⟩
        by_cases hone : L.getD i 0 = 1
        · have cx : wr.cell? ⟨w.heap.size, i / 8, none⟩ = some (.int .u8 (byteAt (L.take i) (i / 8) : Nat)) := by
            rw [cell_of_row _ _ _ _ _ _ hG]
            have := pcs_getD L (n / 8 + 1) i (i / 8) (by omega)
            simp [u8s, this]
          have fx : wr.frozen? ⟨w.heap.size, i / 8, none⟩ = false := frozen_of_row hG _
          have hstep := pcs_step1 L (n / 8 + 1) i (by rw [HLn.out]; omega) hone
          have hnum := or_shr (byteAt (L.take i) (i / 8)) (i % 8) (byteAt_lt (fun x hx => HLb.out x (List.mem_of_mem_take hx)) _) (Nat.mod_lt _ (by decide)) (by
            have := byteAt_low (L.take i)
            rwa [List.length_take, HLn.out, Nat.min_eq_left (by omega)] at this)
          have HG := Lib.hid hG; clear hG
          have HS := Lib.hid hstep; clear hstep
          have HNM := Lib.hid hnum; clear hnum
          have hi8 : i / 8 < n / 8 + 1 := by omega
          have hi82 : (i : Int) / 8 < (n : Int) / 8 + 1 := by omega
          generalize byteAt (L.take i) (i / 8) = x at *
          have fin : (wr.setCell ⟨w.heap.size, i / 8, none⟩ (.int .u8 (bits .or .u8 (x : Int) (128 / 2 ^ (i % 8))))).heap[w.heap.size]? = some (.cells (u8s (pcs L (n / 8 + 1) (i + 1))).toArray 5 (0, 0)) := by
            rw [setCell_heap_at HG.out, HNM.out, HS.out, u8s_set]
            simp
          have HF := Lib.hid fin; clear fin
          have hBs : Below w.heap.size w (wr.setCell ⟨w.heap.size, i / 8, none⟩ (.int .u8 (bits .or .u8 (x : Int) (128 / 2 ^ (i % 8))))) := hB.setCell (Nat.le_refl _) _
          have HBs := Lib.hid hBs; clear hBs
          rcases hbit with ⟨rfl, _⟩ | ⟨hlt, _, b, off, rfl, hc⟩
          · have hb1 : ((i : Int) == i) = true := by simp
            go_wp2
            go_roundw
            case rel => exact ⟨i + 1, by omega, by go_num, HF.out, HBs.out⟩
            case measure => simp [intOf] <;> omega
          · rw [hone] at hc
            have hb1 : ((i : Int) == n) = false := by simp; omega
            go_wp2
            go_roundw
            case rel => exact ⟨i + 1, by omega, by go_num, HF.out, HBs.out⟩
            case measure => simp [intOf] <;> omega
        · rcases hbit with ⟨_, h1⟩ | ⟨hlt, hle, b, off, rfl, hc⟩
          · exact absurd h1 hone
          · have h0 : L.getD i 0 = 0 := by omega
            have hstep := pcs_step0 L (n / 8 + 1) i (by rw [HLn.out]; omega) h0
            rw [h0] at hc
            rw [← hstep] at hG
            have HG := Lib.hid hG; clear hG
            have HS := Lib.hid hstep; clear hstep
            have hb1 : ((i : Int) == n) = false := by simp; omega
            clear h0 hone
            go_wp2
            go_roundw
            case rel => exact ⟨i + 1, by omega, by go_num, HG.out, hB⟩
            case measure => simp [intOf] <;> omega
      · obtain rfl : i = n + 1 := by omega
        have hend : pcs L (n / 8 + 1) (n + 1) = payload l := by
          have := pcs_end L
          rw [HLn.out, show (n + 1 + 7) / 8 = n / 8 + 1 by omega, HL.out] at this
          rw [HL.out]; exact this
        rw [hend] at hG
        have HE := Lib.hid hend; clear hend
        have hpl : (payload l).length = n / 8 + 1 := by rw [← HE.out, pcs_length]
        have HP := Lib.hid hpl; clear hpl
        have HG := Lib.hid hG; clear hG
        go_wp2
        go_ret
        refine ⟨_, rfl, ⟨by rw [u8s_length]; simp, .inr ⟨w.heap.size, n / 8 + 1, _, by rw [HP.out]; rfl, Nat.le_refl _, HG.out, by rw [HP.out]; exact Nat.le_refl _, by unfold maxLen; omega, by simp [u8s_length, HP.out], ?_⟩⟩, hB⟩
        simp [List.take_of_length_le, u8s_length]

/-- the bytes as a string -/
def strOf (l : List Nat) : ByteArray := strOfNums (l.map fun (x : Nat) => (x : Int))

theorem conv {w : World} {v : Value} {l : List Nat} (h : Rd w v (u8s l)) : (convert 22 9 v).run Try.prog w = .ok (.string (strOf l)) w := by
  rcases h with ⟨rfl, h0⟩ | ⟨b, off, c, rfl, hc, hx⟩
  · rw [List.map_eq_nil_iff.1 h0]
    exact run_convert_bytes_nil w _ _ Try.underlying22 Try.underlying5 0 0 _ Try.underlying9
  · refine run_convert_bytes_arg w _ _ Try.underlying22 Try.underlying5 b off _ c (l.map fun (x : Nat) => (x : Int)) (by simp [u8s]) ?_ _ Try.underlying9
    intro i hi
    rw [u8s_length] at hi
    refine hx i _ ?_
    simp [u8s, List.getElem?_eq_getElem hi]

theorem strOf_beq (l m : List Nat) (hl : ∀ x ∈ l, x < 256) (hm : ∀ x ∈ m, x < 256) : ((strOf l).toList == (strOf m).toList) = decide (l = m) := by
  have e : ∀ l : List Nat, (strOf l).toList = l.map fun x => UInt8.ofNat x := by
    intro l
    rw [ByteArray.toList_eq, strOf, strOfNums_data, List.map_map]
    rfl
  have back : ∀ l : List Nat, (∀ x ∈ l, x < 256) → (l.map fun x => UInt8.ofNat x).map UInt8.toNat = l := by
    intro l h
    rw [List.map_map]
    conv => rhs; rw [← List.map_id l]
    apply List.map_congr_left
    intro x hx
    have := h x hx
    simp; omega
  rw [e, e]
  by_cases h : l = m
  · subst h; simp
  · rw [decide_eq_false h]
    simp only [beq_eq_false_iff_ne]
    intro hc
    exact h (by rw [← back l hl, hc, back m hm])

theorem same_walk (w : World) (v u : Value) (l m : List Nat) (h : Rd w v (u8s l)) (k : Rd w u (u8s m)) (hl : ∀ x ∈ l, x < 256) (hm : ∀ x ∈ m, x < 256) :
   Calls Try.prog 23 #[v, u] w fun e w' => e = .returned (.bool (decide (l = m))) ∧ w = w' := by
  have e1 := conv h
  have e2 := conv k
  have hfin := strOf_beq l m hl hm
  have HF := Lib.hid hfin; clear hfin
  generalize strOf l = s at *
  generalize strOf m = t at *
  clear h k
  go_enter Try.func23, Try.ntmps23
  go_wp2
  go_ret
  exact ⟨by rw [← HF.out]; rfl, rfl⟩
end Go.Proofs.Ytmimljaniliecaa
