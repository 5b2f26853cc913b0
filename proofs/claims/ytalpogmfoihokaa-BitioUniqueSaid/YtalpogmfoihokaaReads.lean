/- The walk of BitioReads. -/
import Derived.Test.YtalpogmfoihokaaArgs
namespace Go.Proofs.Ytalpogmfoihokaa
open Go.RowKit Bt

/-- what a take of n bits answers, where l has the bits and at_ are taken -/
def takeVal (l : List Nat) (at_ : Nat) (n : Int) : Nat := if 0 ≤ n ∧ n ≤ 32 ∧ n ≤ (l.length : Int) - at_ then valueOf ((l.drop at_).take n.toNat) else 0
def takeErr (l : List Nat) (at_ : Nat) (n : Int) : Int := if 0 ≤ n ∧ n ≤ 32 then (if n ≤ (l.length : Int) - at_ then 0 else 4) else 1
def takeAt (l : List Nat) (at_ : Nat) (n : Int) : Nat := if 0 ≤ n ∧ n ≤ 32 ∧ n ≤ (l.length : Int) - at_ then at_ + n.toNat else at_

theorem take_en (p : List Nat) (en at_ k : Nat) (h : at_ + k ≤ en) : ((unpack p).drop at_).take k = (((unpack p).take en).drop at_).take k := by
  rw [List.drop_take, List.take_take]
  congr 1
  omega

theorem takeVal_lt (l : List Nat) (h : Bin l) (at_ : Nat) (n : Int) : takeVal l at_ n < 4294967296 := by
  unfold takeVal
  split
  · rename_i h1
    have hb : Bin ((l.drop at_).take n.toNat) := fun x hx => h x (List.mem_of_mem_drop (List.mem_of_mem_take hx))
    have h2 := valueOf_lt hb
    have h3 : ((l.drop at_).take n.toNat).length ≤ 32 := by rw [List.length_take]; omega
    have h4 : 2 ^ ((l.drop at_).take n.toNat).length ≤ 2 ^ 32 := Nat.pow_le_pow_right (by decide) h3
    omega
  · decide

/-- the program's Take, whatever is asked -/
theorem rTake_any (w : World) (S : Nat → Prop) (g : Nat) (p : List Nat) (en at_ : Nat) (n : Int) (h : IsR w S g p en at_) :
    Calls Try.prog 18 #[.pointer (some ⟨g, 0, none⟩), .int .i64 n] w fun e w' =>
      e = .returned (.tuple #[.int .u32 (takeVal ((unpack p).take en) at_ n : Nat), .int .i64 (takeErr ((unpack p).take en) at_ n)]) ∧ IsR w' S g p en (takeAt ((unpack p).take en) at_ n) ∧ Keep (fun k => k = g) w w' := by
  obtain ⟨v, h1, h2, h3, h4, h5, h6, h7, h8, h9⟩ := id h
  have hl : ((unpack p).take en).length = en := by rw [List.length_take, unpack_length]; omega
  unfold takeVal takeErr takeAt
  rw [hl]
  by_cases hn : 0 ≤ n ∧ n ≤ 32
  · by_cases hs : n ≤ (en : Int) - at_
    · rw [if_pos ⟨hn.1, hn.2, hs⟩, if_pos hn, if_pos hs, if_pos ⟨hn.1, hn.2, hs⟩, ← take_en p en at_ n.toNat (by omega)]
      exact rTake w S g p en at_ n h hn hs
    · rw [if_neg (by omega), if_pos hn, if_neg hs, if_neg (by omega)]
      refine (rTake_short w S g p en at_ n h hn (by omega)).mono ?_
      rintro e w' ⟨rfl, m, rfl⟩
      exact ⟨rfl, h, (Keep.refl _ _).drewN _⟩
  · rw [if_neg (by omega), if_neg hn, if_neg (by omega)]
    refine (rTake_arg w g n (by omega)).mono ?_
    rintro e w' ⟨rfl, rfl⟩
    exact ⟨rfl, h, Keep.refl _ _⟩

theorem qTake_any (w : World) (S : Nat → Prop) (g : Nat) (l : List Nat) (at_ : Nat) (n : Int) (h : IsQ w S g l at_) :
    Calls Try.prog 24 #[.pointer (some ⟨g, 0, none⟩), .int .i64 n] w fun e w' =>
      e = .returned (.tuple #[.int .u32 (takeVal l at_ n : Nat), .int .i64 (takeErr l at_ n)]) ∧ IsQ w' S g l (takeAt l at_ n) ∧ Keep (fun k => k = g) w w' := by
  unfold takeVal takeErr takeAt
  by_cases hn : 0 ≤ n ∧ n ≤ 32
  · by_cases hs : n ≤ (l.length : Int) - at_
    · rw [if_pos ⟨hn.1, hn.2, hs⟩, if_pos hn, if_pos hs, if_pos ⟨hn.1, hn.2, hs⟩]
      exact qTake w S g l at_ n h hn hs
    · rw [if_neg (by omega), if_pos hn, if_neg hs, if_neg (by omega)]
      refine (qTake_short w S g l at_ n h hn (by omega)).mono ?_
      rintro e w' ⟨rfl, m, rfl⟩
      exact ⟨rfl, h, (Keep.refl _ _).drewN _⟩
  · rw [if_neg (by omega), if_neg hn, if_neg (by omega)]
    refine (qTake_arg w g n (by omega)).mono ?_
    rintro e w' ⟨rfl, rfl⟩
    exact ⟨rfl, h, Keep.refl _ _⟩

theorem reads_big (w : World) (va vb : Value) (p : List Nat) (ns : List Int) (ha : Rd w va (u8s p)) (hb : Rd w vb (ns.map (Value.int .i64))) (hl : 1000 < p.length ∨ 1000 < ns.length) :
    Calls Try.prog 6 #[va, vb] w fun e w' => e = .returned (.bool true) ∧ Below w.heap.size w w' := by
  obtain ⟨A, ca, rfl, _⟩ := ha.shape
  obtain ⟨B, cb, rfl, _⟩ := hb.shape
  rw [u8s_length, List.length_map]
  clear ha hb
  generalize p.length = n at *
  generalize ns.length = m at *
  by_cases h1 : 1000 < n
  · clear hl
    go_enter Try.func6, Try.ntmps6
    go_wp2
    go_ret
    exact ⟨rfl, Below.refl _ _⟩
  · have h2 : 1000 < m := by omega
    clear hl
    go_enter Try.func6, Try.ntmps6
    go_wp2
    go_ret
    exact ⟨rfl, Below.refl _ _⟩

set_option maxHeartbeats 1000000 in
theorem reads_bad (w : World) (va vb : Value) (p : List Nat) (ns : List Int) (ha : Rd w va (u8s p)) (hb : Rd w vb (ns.map (Value.int .i64))) (hl : p.length ≤ 1000 ∧ ns.length ≤ 1000) (hbad : p = [] ∨ p.getD (p.length - 1) 0 = 0) :
    Calls Try.prog 6 #[va, vb] w fun e w' => e = .returned (.bool true) ∧ Below w.heap.size w w' := by
  have n1 : (p.length : Int) ≤ 1000 := by omega
  have n2 : (ns.length : Int) ≤ 1000 := by omega
  have hq1 := newReader_bad w va p ha (by omega) hbad
  have hq2 : ∀ w1, Below w.heap.size w w1 → _ := fun w1 h1 => open_bad w1 va p (ha.below h1) (by omega) hbad
  have HQ1 := Lib.hid hq1
  have HQ2 := Lib.hid hq2
  obtain ⟨A, ca, rfl, _⟩ := ha.shape
  obtain ⟨B, cb, rfl, _⟩ := hb.shape
  rw [u8s_length] at *
  rw [List.length_map] at *
  clear hq1 hq2 ha hb hbad
  generalize p.length = n at *
  generalize ns.length = m at *
  go_enter Try.func6, Try.ntmps6
  go_wp2_with fail
  refine HQ1.out.mono ?_
  rintro e w1 ⟨rfl, hb1⟩
  have HB1 := Lib.hid hb1; clear hb1
  go_wp2_with fail
  refine (HQ2.out w1 HB1.out).mono ?_
  rintro e w2 ⟨rfl, rfl⟩
  go_wp2_with fail
  refine (awake_walk _).mono ?_
  rintro e w2 ⟨rfl, hb2⟩
  have HB2 := Lib.hid hb2; clear hb2
  go_wp2
  go_ret
  exact ⟨rfl, HB1.out.trans (HB2.out.mono HB1.out.size)⟩

set_option maxHeartbeats 1000000 in
theorem reads_walk (w : World) (va vb : Value) (p : List Nat) (ns : List Int) (ha : Rd w va (u8s p)) (hp : ∀ x ∈ p, x < 256) (hb : Rd w vb (ns.map (Value.int .i64))) (hl : p.length ≤ 1000 ∧ ns.length ≤ 1000) (hne : p ≠ []) (hlast : p.getD (p.length - 1) 0 ≠ 0) :
    Calls Try.prog 6 #[va, vb] w fun e w' => e = .returned (.bool true) ∧ Below w.heap.size w w' := by
  have n1 : (p.length : Int) ≤ 1000 := by omega
  have n2 : (ns.length : Int) ≤ 1000 := by omega
  have hq1 := newReader w va p ha hp (by omega) hne hlast
  have hq2 : ∀ w1, Below w.heap.size w w1 → _ := fun w1 h1 => open_walk w1 va p (ha.below h1) hp (by omega) hne hlast
  have hen := endOf_lt p hne
  have HQ1 := Lib.hid hq1
  have HQ2 := Lib.hid hq2
  obtain ⟨A, ca, rfl, _⟩ := ha.shape
  obtain ⟨B, cb, rfl, _, hxb⟩ := hb.shape
  rw [u8s_length] at *
  rw [List.length_map] at *
  clear hq1 hq2 ha hb hne hlast hp
  have HXB := Lib.hid hxb; clear hxb
  generalize hm : p.length = m at *
  generalize hm' : ns.length = m' at *
  have HM := Lib.hid hm; clear hm
  have HM' := Lib.hid hm'; clear hm'
  go_enter Try.func6, Try.ntmps6
  go_wp2_with fail
  refine HQ1.out.mono ?_
  rintro e w1 ⟨g1, S1, rfl, hR, hS1, hb1⟩
  have HB1 := Lib.hid hb1; clear hb1
  go_wp2_with fail
  refine (HQ2.out w1 HB1.out).mono ?_
  rintro e w2 ⟨g2, S2, rfl, hQ, hS2, hb2⟩
  have HB2 := Lib.hid hb2; clear hb2
  obtain ⟨en, hen'⟩ : ∃ en, en = endOf p := ⟨_, rfl⟩
  rw [← hen'] at hR hQ hen
  clear hen'
  obtain ⟨l, hl'⟩ : ∃ l, l = (unpack p).take en := ⟨_, rfl⟩
  have hll : l.length = en := by rw [hl', List.length_take, unpack_length]; have := HM.out; omega
  rw [← hl'] at hQ
  have HLL := Lib.hid hll; clear hll
  have HL' := Lib.hid hl'; clear hl'
  have hlt1 : ∀ k, S1 k → k < w1.heap.size := hR.choose_spec.2.2.2.2.2.2.2.2
  have hd12 : ∀ k, S2 k → ¬ S1 k := fun k h2 h1 => by have := hlt1 k h1; have := hS2 k h2; omega
  have hg1 : S1 g1 := hR.choose_spec.2.2.2.2.2.2.1
  have hg2 : S2 g2 := hQ.choose_spec.2.2.2.2.2.1
  have hR2 : IsR w2 S1 g1 p en 0 := hR.keep (Keep.of_below HB2.out) (fun _ _ h => h)
  have hB2 : Below w.heap.size w w2 := HB1.out.trans (HB2.out.mono HB1.out.size)
  have hsz1 := HB1.out.size
  clear hR hlt1
  have hcL : ∀ w' at_, IsR w' S1 g1 p en at_ → Calls Try.prog 17 #[.pointer (some ⟨g1, 0, none⟩)] w' fun e w'' => e = .returned (.int .i64 ((en - at_ : Nat) : Int)) ∧ ∃ m, w'' = w'.drewN m := fun w' at_ h => rLeft w' S1 g1 p en at_ h
  have hcQ : ∀ w' at_, IsQ w' S2 g2 l at_ → Calls Try.prog 23 #[.pointer (some ⟨g2, 0, none⟩)] w' fun e w'' => e = .returned (.int .i64 ((en - at_ : Nat) : Int)) ∧ ∃ m, w'' = w'.drewN m := fun w' at_ h => by
    have := qLeft w' S2 g2 l at_ h
    rwa [HLL.out] at this
  have HCL := Lib.hid hcL; clear hcL
  have HCQ := Lib.hid hcQ; clear hcQ
  go_wp2_with fail
  go_loopw [9] (fun t wr => ∃ i at_ : Nat, i ≤ m' ∧ t = .int .i64 i ∧ IsR wr S1 g1 p en at_ ∧ IsQ wr S2 g2 l at_ ∧ Below w.heap.size w wr) (fun t _ => m' - (intOf t).toNat)
  case atStart => exact ⟨0, 0, Nat.zero_le _, rfl, hR2, hQ, hB2⟩
  case round =>
    clear hR2 hQ hB2
    obtain ⟨i, at_, hin, rfl, hR, hQ, hB⟩ := hrel
    have c2 : wr.cell? ⟨g2, 1, none⟩ = some (.int .i64 at_) := cell_of_row _ _ _ _ _ _ hQ.choose_spec.1
    by_cases hlt : i < m'
    · obtain ⟨b, off, rfl, cx⟩ := HXB.out i (.int .i64 (ns[i]'(by rw [HM'.out]; exact hlt))) (by rw [List.getElem?_map, List.getElem?_eq_getElem (by rw [HM'.out]; exact hlt)]; rfl)
      generalize ns[i]'(by rw [HM'.out]; exact hlt) = n at *
      have hbw : b < w.heap.size := World.block_lt_of_cell? _ _ cx
      have cx' : wr.cell? ⟨b, off + i, none⟩ = some (.int .i64 n) := (hB.cell (p := ⟨b, off + i, none⟩) (World.block_lt_of_cell? _ _ cx)).trans cx
      clear cx
      go_wp2_with fail
      go_quiet ((first | (go_at_call 17; exact Calls.quiet_of (HCL.out _ at_ (by exact hR))) | (go_at_call 23; exact Calls.quiet_of (HCQ.out _ at_ (by exact hQ))) | (go_at_call 21; exact quiet_same (rAt _ S1 g1 p en at_ (by exact hR)))))
      have ht1 := rTake_any (wr.drewN nq) S1 g1 p en at_ n hR
      rw [← HL'.out] at ht1
      have ht2 : ∀ w', IsQ w' S2 g2 l at_ → _ := fun w' h => qTake_any w' S2 g2 l at_ n h
      have hv32 := takeVal_lt l (by rw [HL'.out]; exact fun x hx => unpack_bin p x (List.mem_of_mem_take hx)) at_ n
      generalize takeVal l at_ n = tv at *
      generalize takeErr l at_ n = te at *
      generalize takeAt l at_ n = ta at *
      have HT1 := Lib.hid ht1; clear ht1
      have HT2 := Lib.hid ht2; clear ht2
      have hsz := hB.size
      have hQ' := hQ
      have hB' := hB
      clear hR hQ c2
      go_wp2_with fail
      refine HT1.out.mono ?_
      rintro e w3 ⟨rfl, hR3, hK3⟩
      have hQ3 : IsQ w3 S2 g2 l at_ := hQ'.keep hK3.of_drewN (fun k hs he => hd12 k hs (by subst he; exact hg1))
      have cx3 : w3.cell? ⟨b, off + i, none⟩ = some (.int .i64 n) := hK3.of_drewN.cell cx' (fun he => by have := hS1 g1 hg1; exact absurd hbw (by subst he; exact Nat.not_lt.2 this))
      go_wp2_with fail
      refine (HT2.out _ hQ3).mono ?_
      rintro e w4 ⟨rfl, hQ4, hK4⟩
      go_wp2
      go_roundw
      case rel =>
        refine ⟨i + 1, ta, by omega, by go_num, hR3.keep hK4 (fun k hs he => hd12 k (by subst he; exact hg2) hs), hQ4, ?_⟩
        have hg1w := hS1 g1 hg1
        have hg2w := hS2 g2 hg2
        have h3 := hB'.trans (hK3.of_drewN.below hsz (fun i hi he => by omega))
        exact h3.trans (hK4.below h3.size (fun i hi he => by omega))
      case measure => simp [intOf] <;> omega
    · go_wp2_with fail
      go_region_held3 (fun w' => w'.cell? ⟨g2, 1, none⟩ = some (.int .i64 at_)) (first | go_keep | exact c23) ((first | (go_at_call 15; refine (awake_walk _).mono ?_; rintro e w3 ⟨rfl, hb3⟩; have hb3' : Below wr.heap.size wr w3 := ⟨hb3.os, hb3.tape, hb3.output, hb3.size, hb3.block⟩; have hR3 : IsR w3 S1 g1 p en at_ := hR.keep (Keep.of_below hb3') (fun _ _ h => h); have hQ3 : IsQ w3 S2 g2 l at_ := hQ.keep (Keep.of_below hb3') (fun _ _ h => h); have c23 : w3.cell? ⟨g2, 1, none⟩ = some (.int .i64 at_) := cell_of_row _ _ _ _ _ _ hQ3.choose_spec.1) | (go_at_call 17; refine (HCL.out _ at_ (by exact hR3)).mono ?_; rintro e w4 ⟨rfl, m4, rfl⟩) | (go_at_call 23; refine (HCQ.out _ at_ (by exact hQ3)).mono ?_; rintro e w5 ⟨rfl, m5, rfl⟩) | (go_at_call 21; refine (rAt _ S1 g1 p en at_ (by exact hR3)).mono ?_; rintro e w6 ⟨rfl, rfl⟩)))
      have hfin : Below w.heap.size w w3 := hB.trans (hb3'.mono hB.size)
      go_wp2
      go_ret
      exact ⟨rfl, ⟨hfin.os, hfin.tape, hfin.output, hfin.size, hfin.block⟩⟩

theorem reads_all (w : World) (va vb : Value) (p : List Nat) (ns : List Int) (ha : Rd w va (u8s p)) (hp : ∀ x ∈ p, x < 256) (hb : Rd w vb (ns.map (Value.int .i64))) (_hn : ∀ x ∈ ns, -9223372036854775808 ≤ x ∧ x ≤ 9223372036854775807) :
    Calls Try.prog 6 #[va, vb] w fun e w' => e = .returned (.bool true) ∧ Below w.heap.size w w' := by
  by_cases h : p.length ≤ 1000 ∧ ns.length ≤ 1000
  · by_cases hbad : p = [] ∨ p.getD (p.length - 1) 0 = 0
    · exact reads_bad w va vb p ns ha hb h hbad
    · exact reads_walk w va vb p ns ha hp hb h (fun e => hbad (.inl e)) (fun e => hbad (.inr e))
  · exact reads_big w va vb p ns ha hb (by omega)
end Go.Proofs.Ytalpogmfoihokaa
