/- The walk of BitioUnique. -/
import Derived.Test.YtalpogmfoihokaaReads
import Derived.Test.YtalpogmfoihokaaBits2
namespace Go.Proofs.Ytalpogmfoihokaa
open Go.RowKit Bt

theorem unique_big (w : World) (va : Value) (p : List Nat) (ha : Rd w va (u8s p)) (hl : 500 < p.length) :
    Calls Try.prog 4 #[va] w fun e w' => e = .returned (.bool true) ∧ Below w.heap.size w w' := by
  obtain ⟨A, ca, rfl, _⟩ := ha.shape
  rw [u8s_length]
  clear ha
  generalize p.length = n at *
  go_enter Try.func4, Try.ntmps4
  go_wp2
  go_ret
  exact ⟨rfl, Below.refl _ _⟩

set_option maxHeartbeats 1000000 in
theorem unique_bad (w : World) (va : Value) (p : List Nat) (ha : Rd w va (u8s p)) (hl : p.length ≤ 500) (hbad : p = [] ∨ p.getD (p.length - 1) 0 = 0) :
    Calls Try.prog 4 #[va] w fun e w' => e = .returned (.bool true) ∧ Below w.heap.size w w' := by
  have n1 : (p.length : Int) ≤ 500 := by omega
  have hq1 := newReader_bad w va p ha (by omega) hbad
  have HQ1 := Lib.hid hq1
  obtain ⟨A, ca, rfl, _, hx⟩ := ha.shape
  rw [u8s_length] at *
  clear hq1 ha
  obtain ⟨n, hn⟩ : ∃ n, n = p.length := ⟨_, rfl⟩
  rw [← hn] at HQ1 n1 hl hbad ⊢
  by_cases h0 : n = 0
  · subst h0
    clear hbad hx hn
    go_enter Try.func4, Try.ntmps4
    go_wp2_with fail
    refine HQ1.out.mono ?_
    rintro e w1 ⟨rfl, hb1⟩
    have HB1 := Lib.hid hb1; clear hb1
    go_wp2_with fail
    refine (awake_walk _).mono ?_
    rintro e w2 ⟨rfl, hb2⟩
    have HB2 := Lib.hid hb2; clear hb2
    go_wp2
    go_ret
    exact ⟨rfl, HB1.out.trans (HB2.out.mono HB1.out.size)⟩
  · have hz : p.getD (n - 1) 0 = 0 := by
      rcases hbad with h | h
      · subst h; simp at hn; omega
      · exact h
    have hlt : n - 1 < p.length := by omega
    obtain ⟨b, off, rfl, cx⟩ := hx (n - 1) (.int .u8 0) (by
      rw [List.getD_eq_getElem?_getD, List.getElem?_eq_getElem hlt] at hz
      simp only [Option.getD_some] at hz
      simp [u8s, List.getElem?_eq_getElem hlt, hz])
    have hn1 : 1 ≤ n := by omega
    have hn0 : ((n : Int) == 0) = false := by simp; omega
    have hbl : b < w.heap.size := World.block_lt_of_cell? _ _ cx
    clear hbad hx hz hlt hn h0
    go_enter Try.func4, Try.ntmps4
    go_wp2_with fail
    refine HQ1.out.mono ?_
    rintro e w1 ⟨rfl, hb1⟩
    have HB1 := Lib.hid hb1; clear hb1
    go_wp2_with fail
    refine (awake_walk _).mono ?_
    rintro e w2 ⟨rfl, hb2⟩
    have hB2 : Below w.heap.size w w2 := HB1.out.trans (hb2.mono HB1.out.size)
    have cx2 : w2.cell? ⟨b, off + (n - 1), none⟩ = some (.int .u8 0) := (hB2.cell (p := ⟨b, off + (n - 1), none⟩) hbl).trans cx
    have HB2 := Lib.hid hB2; clear hB2 hb2
    go_wp2
    go_ret
    exact ⟨rfl, HB2.out⟩

set_option maxHeartbeats 2000000 in
theorem unique_walk (w : World) (va : Value) (p : List Nat) (ha : Rd w va (u8s p)) (hp : ∀ x ∈ p, x < 256) (hl : p.length ≤ 500) (hne : p ≠ []) (hlast : p.getD (p.length - 1) 0 ≠ 0) :
    Calls Try.prog 4 #[va] w fun e w' => e = .returned (.bool true) ∧ Below w.heap.size w w' := by
  have n1 : (p.length : Int) ≤ 500 := by omega
  have hq1 := newReader w va p ha hp (by omega) hne hlast
  have hen := endOf_lt p hne
  have hpay := payload_unpack p hp hne hlast
  have HQ1 := Lib.hid hq1
  have HPAY := Lib.hid hpay
  have HA := Lib.hid ha
  have HP := Lib.hid hp
  obtain ⟨A, ca, rfl, _, hx⟩ := ha.shape
  rw [u8s_length] at *
  clear hq1 ha hx hne hlast hp hpay
  generalize hm : p.length = m at *
  have HM := Lib.hid hm; clear hm
  go_enter Try.func4, Try.ntmps4
  go_wp2_with fail
  refine HQ1.out.mono ?_
  rintro e w1 ⟨g1, S1, rfl, hR, hS1, hb1⟩
  have HB1 := Lib.hid hb1; clear hb1
  go_wp2_with fail
  refine (newWriter w1).mono ?_
  rintro e w2 ⟨rfl, hW, hb2⟩
  obtain ⟨en, hen'⟩ : ∃ en, en = endOf p := ⟨_, rfl⟩
  rw [← hen'] at hR hen HPAY
  clear hen'
  obtain ⟨g2, hg2e⟩ : ∃ g2, g2 = w1.heap.size := ⟨_, rfl⟩
  rw [← hg2e] at hW ⊢
  have hlt1 : ∀ k, S1 k → k < g2 := fun k hk => by rw [hg2e]; exact hR.choose_spec.2.2.2.2.2.2.2.2 k hk
  have hg1 : S1 g1 := hR.choose_spec.2.2.2.2.2.2.1
  have hR2 : IsR w2 S1 g1 p en 0 := hR.keep (Keep.of_below hb2) (fun _ _ h => h)
  have hB2 : Below w.heap.size w w2 := HB1.out.trans (hb2.mono HB1.out.size)
  have hg2w : w.heap.size ≤ g2 := by rw [hg2e]; exact HB1.out.size
  have hcL : ∀ w' at_, IsR w' S1 g1 p en at_ → Calls Try.prog 17 #[.pointer (some ⟨g1, 0, none⟩)] w' fun e w'' => e = .returned (.int .i64 ((en - at_ : Nat) : Int)) ∧ ∃ m, w'' = w'.drewN m := fun w' at_ h => rLeft w' S1 g1 p en at_ h
  have HCL := Lib.hid hcL; clear hcL
  clear hR hb2 hg2e
  have hent : en ≤ 8 * m := by omega
  have hq0 := HCL.out w2 0 hR2
  rw [Nat.sub_zero] at hq0
  have HQ0 := Lib.hid hq0; clear hq0
  have hent2 : (en : Int) ≤ 8 * m := by omega
  go_wp2_with fail
  refine HQ0.out.mono ?_
  rintro e w3 ⟨rfl, m3, rfl⟩
  have hIR : IsR (w2.drewN m3) S1 g1 p en 0 := hR2
  have hIW : IsW (w2.drewN m3) (fun k => k = g2) g2 ((unpack p).take 0) := hW
  have hB3 : Below w.heap.size w (w2.drewN m3) := ⟨hB2.os, hB2.tape, hB2.output, hB2.size, hB2.block⟩
  generalize w2.drewN m3 = w3 at *
  clear hR2 hW hB2
  go_wp2_with fail
  go_loopg [] en (fun k wr => ∃ at_, at_ + k = en ∧ IsR wr S1 g1 p en at_ ∧ ∃ S2, IsW wr S2 g2 ((unpack p).take at_) ∧ (∀ k, S2 k → g2 ≤ k) ∧ Below w.heap.size w wr)
  case atStart => exact ⟨0, by omega, hIR, _, hIW, fun k hk => by omega, hB3⟩
  case round =>
    clear hIR hIW hB3
    obtain ⟨at_, hat, hR, S2, hW, hS2, hB⟩ := hrel
    have HAT := Lib.hid hat; clear hat
    have hwsz := hB.size
    by_cases hz : gk = 0
    · subst hz
      have hL := HCL.out wr at_ hR
      rw [show en - at_ = 0 by have := HAT.out; omega] at hL
      have HL := Lib.hid hL; clear hL
      have hae : at_ = en := by have := HAT.out; omega
      subst hae
      go_wp2_with fail
      refine HL.out.mono ?_
      rintro e w4 ⟨rfl, m4, rfl⟩
      have hW4 : IsW (wr.drewN m4) S2 g2 ((unpack p).take at_) := hW
      have hB4 : Below w.heap.size w (wr.drewN m4) := ⟨hB.os, hB.tape, hB.output, hB.size, hB.block⟩
      generalize wr.drewN m4 = w4 at *
      clear hW hB
      go_wp2_with fail
      refine (awake_walk _).mono ?_
      rintro e w5 ⟨rfl, hb5⟩
      have hW5 := hW4.keep (Keep.of_below hb5) (fun _ _ h => h)
      have hB5 : Below w.heap.size w w5 := hB4.trans (hb5.mono hB4.size)
      have hbin : Bin ((unpack p).take at_) := fun x hx => unpack_bin p x (List.mem_of_mem_take hx)
      go_wp2_with fail
      refine (wPay w5 S2 _ _ hW5 (by rw [List.length_take]; omega)).mono ?_
      rintro e w6 ⟨v6, rfl, ho6, hb6⟩
      have hA6 : Rd w6 (.slice A m ca) (u8s p) := HA.out.keep (S := fun _ => False) (Keep.of_below (hB5.trans (hb6.mono hB5.size))) (fun _ _ h => h)
      have hB6 : Below w.heap.size w w6 := hB5.trans (hb6.mono hB5.size)
      go_wp2_with fail
      refine (same_walk w6 v6 _ _ _ (Rd.own ho6) hA6 (payload_lt _ hbin) HP.out).mono ?_
      rintro e w7 ⟨rfl, rfl⟩
      have hdt : decide (payload ((unpack p).take at_) = p) = true := decide_eq_true HPAY.out
      have HDT := Lib.hid hdt
      rw [hdt]
      clear hdt ho6 hA6 hW5 hW4 hb5 hb6 hB5 hB4
      have HB6 := Lib.hid hB6; clear hB6
      go_wp2
      go_ret
      exact ⟨rfl, HB6.out⟩
    · obtain ⟨q, rfl⟩ : ∃ q, gk = q + 1 := ⟨gk - 1, by omega⟩
      have hL := HCL.out wr at_ hR
      rw [show en - at_ = q + 1 by have := HAT.out; omega] at hL
      have HL := Lib.hid hL; clear hL
      have hq8 : q ≤ 8 * m := by have := HAT.out; omega
      have hat8 : at_ < 8 * p.length := by have := HAT.out; have := HM.out; omega
      have hval : valueOf (((unpack p).drop at_).take (1 : Int).toNat) = bitOf p at_ := by
        have := take_value p at_ 0 (by omega)
        simpa [valueOf] using this
      have htk : (unpack p).take (at_ + 1) = (unpack p).take at_ ++ [bitOf p at_] := by
        rw [take_snoc' _ _ (by rw [unpack_length]; exact hat8), unpack_getD p at_ hat8]
      have hble := bitOf_le p at_
      have HVAL := Lib.hid hval; clear hval
      have HTK := Lib.hid htk; clear htk
      go_wp2_with fail
      refine HL.out.mono ?_
      rintro e w4 ⟨rfl, m4, rfl⟩
      go_wp2_with fail
      refine (HCL.out (wr.drewN m4) at_ (by exact hR)).mono ?_
      rw [show en - at_ = q + 1 by have := HAT.out; omega]
      rintro e w5 ⟨rfl, m5, rfl⟩
      have hW5 : IsW ((wr.drewN m4).drewN m5) S2 g2 ((unpack p).take at_) := hW
      have hR5 : IsR ((wr.drewN m4).drewN m5) S1 g1 p en at_ := hR
      have hB5 : Below w.heap.size w ((wr.drewN m4).drewN m5) := ⟨hB.os, hB.tape, hB.output, hB.size, hB.block⟩
      generalize (wr.drewN m4).drewN m5 = w5 at *
      clear hW hR hB
      go_wp2_with fail
      refine (rTake w5 S1 g1 p en at_ 1 hR5 (by decide) (by have := HAT.out; omega)).mono ?_
      rw [HVAL.out]
      rintro e w6 ⟨rfl, hR6, hK6⟩
      have hW6 := hW5.keep hK6 (fun k hs he => by have := hS2 k hs; have := hlt1 g1 hg1; omega)
      have hB6 : Below w.heap.size w w6 := hB5.trans (hK6.below hB5.size (fun i hi he => by have := hS1 g1 hg1; omega))
      generalize bitOf p at_ = bt at *
      have hb2 : ((bt : Int) / 2 ^ (1 : Int).toNat) ≤ 0 := by show (bt : Int) / 2 ^ 1 ≤ 0; omega
      clear hW5 hR5 hB5 hK6
      go_wp2_with fail
      refine (wPut w6 S2 g2 _ bt 1 hW6 (by rw [List.length_take]; have := HAT.out; omega) (by omega) (by decide) hb2).mono ?_
      rintro e w7 ⟨rfl, S7, hW7, hS7, hK7⟩
      have hR7 := hR6.keep hK7 (fun k h1 h2 => by have := hlt1 k h1; have := hS2 k h2; omega)
      have hB7 : Below w.heap.size w w7 := hB6.trans (hK7.below hB6.size (fun i hi hs => by have := hS2 i hs; omega))
      have hL7 := HCL.out w7 _ hR7
      rw [show en - (at_ + (1 : Int).toNat) = q by have := HAT.out; show en - (at_ + 1) = q; omega] at hL7
      have HL7 := Lib.hid hL7; clear hL7
      have hfin : IsW w7 S7 g2 ((unpack p).take (at_ + 1)) := by
        rw [HTK.out, show [bt] = bitsOf (bt : Int).toNat (1 : Int).toNat by rw [Int.toNat_natCast]; exact (bitsOf_one bt hble).symm]
        exact hW7
      have hS7' : ∀ k, S7 k → g2 ≤ k := by
        intro k hk
        rcases hS7 k hk with h | h
        · exact hS2 k h
        · have := hlt1 g1 hg1
          have h2 : g2 < w6.heap.size := hW6.choose_spec.2.2.2.2.2 g2 hW6.choose_spec.2.2.2.1
          omega
      clear hW6 hR6 hB6 hK7 hS7 hW7
      go_wp2_with fail
      refine HL7.out.mono ?_
      rintro e w8 ⟨rfl, m8, rfl⟩
      go_wp2
      go_roundg q
      case measure => omega
      case rel => exact ⟨at_ + 1, by have := HAT.out; omega, hR7, S7, hfin, hS7', ⟨hB7.os, hB7.tape, hB7.output, hB7.size, hB7.block⟩⟩

theorem unique_all (w : World) (va : Value) (p : List Nat) (ha : Rd w va (u8s p)) (hp : ∀ x ∈ p, x < 256) :
    Calls Try.prog 4 #[va] w fun e w' => e = .returned (.bool true) ∧ Below w.heap.size w w' := by
  by_cases h : p.length ≤ 500
  · by_cases hbad : p = [] ∨ p.getD (p.length - 1) 0 = 0
    · exact unique_bad w va p ha h hbad
    · exact unique_walk w va p ha hp h (fun e => hbad (.inl e)) (fun e => hbad (.inr e))
  · exact unique_big w va p ha (by omega)
end Go.Proofs.Ytalpogmfoihokaa
