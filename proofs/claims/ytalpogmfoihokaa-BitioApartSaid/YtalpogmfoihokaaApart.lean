/- The walk of BitioApart. -/
import Derived.Test.YtalpogmfoihokaaReads
import Derived.Test.YtalpogmfoihokaaBits2
namespace Go.Proofs.Ytalpogmfoihokaa
open Go.RowKit Bt

theorem apart_big (w : World) (va vb : Value) (a b : List (Int × Int)) (t : Int) (ha : RdO w va a) (hb : RdO w vb b) (hl : 100 < a.length ∨ 100 < b.length) :
    Calls Try.prog 8 #[va, vb, .int .i64 t] w fun e w' => e = .returned (.bool true) ∧ Below w.heap.size w w' := by
  obtain ⟨A, ca, rfl, _⟩ := ha
  obtain ⟨B, cb, rfl, _⟩ := hb
  generalize a.length = n at *
  generalize b.length = m at *
  by_cases h1 : 100 < n
  · clear hl
    go_enter Try.func8, Try.ntmps8
    go_wp2
    go_ret
    exact ⟨rfl, Below.refl _ _⟩
  · have h2 : 100 < m := by omega
    clear hl
    go_enter Try.func8, Try.ntmps8
    go_wp2
    go_ret
    exact ⟨rfl, Below.refl _ _⟩

theorem isW_lt {w : World} {S : Nat → Prop} {g : Nat} {l : List Nat} (h : IsW w S g l) : ∀ k, S k → k < w.heap.size := h.choose_spec.2.2.2.2.2
theorem isR_lt {w : World} {S : Nat → Prop} {g : Nat} {p : List Nat} {en at_ : Nat} (h : IsR w S g p en at_) : ∀ k, S k → k < w.heap.size := h.choose_spec.2.2.2.2.2.2.2.2
theorem isR_g {w : World} {S : Nat → Prop} {g : Nat} {p : List Nat} {en at_ : Nat} (h : IsR w S g p en at_) : S g := h.choose_spec.2.2.2.2.2.2.1

set_option maxHeartbeats 2000000 in
theorem apart_walk (w : World) (va vb : Value) (a b : List (Int × Int)) (t : Int) (ha : RdO w va a) (hb : RdO w vb b) (hl : a.length ≤ 100 ∧ b.length ≤ 100) :
    Calls Try.prog 8 #[va, vb, .int .i64 t] w fun e w' => e = .returned (.bool true) ∧ Below w.heap.size w w' := by
  have n1 : (a.length : Int) ≤ 100 := by omega
  have n2 : (b.length : Int) ≤ 100 := by omega
  have hxa := allBits_length a
  have hxb := allBits_length b
  have HA := Lib.hid ha
  have HB := Lib.hid hb
  obtain ⟨A, ca, rfl, _⟩ := ha
  obtain ⟨B, cb, rfl, _⟩ := hb
  have hba := allBits_bin a
  have hbb := allBits_bin b
  obtain ⟨hl1, hl2⟩ := hl
  generalize hm : a.length = m at *
  generalize hm' : b.length = m' at *
  have HM := Lib.hid hm; clear hm
  have HM' := Lib.hid hm'; clear hm'
  go_enter Try.func8, Try.ntmps8
  go_wp2_with fail
  refine (newWriter w).mono ?_
  rintro e w1 ⟨rfl, hV1, hb1⟩
  go_wp2_with fail
  refine (newWriter w1).mono ?_
  rintro e w2 ⟨rfl, hW2, hb2⟩
  obtain ⟨g2, hg2⟩ : ∃ g2, g2 = w1.heap.size := ⟨_, rfl⟩
  rw [← hg2] at hW2 ⊢
  have hlt1 := isW_lt hV1
  have hV2 := hV1.keep (Keep.of_below hb2) (fun _ _ h => h)
  have hB2 : Below w.heap.size w w2 := hb1.trans (hb2.mono hb1.size)
  have hgw : w.heap.size < g2 := by rw [hg2]; exact hlt1 _ rfl
  have hg2' : g2 < w2.heap.size := isW_lt hW2 g2 rfl
  clear hV1 hb1 hb2 hg2 hlt1
  go_wp2_with fail
  refine (written_walk w2 _ w.heap.size _ a hV2 (HA.out.keep (S := fun _ => False) (Keep.of_below hB2) (fun _ _ _ h => h)) (fun k hk hs => HA.out.fresh k hk (by omega)) (by rw [HM.out]; omega)).mono ?_
  rintro e w3 ⟨x, SV, rfl, hV3, hx, hxS, hSV, hK3⟩
  have hW3 := hW2.keep hK3 (fun k h1 h2 => by omega)
  have hB3 : Below w.heap.size w w3 := hB2.trans (hK3.below hB2.size (by intro i hi h; omega))
  have hSVw : ∀ k, SV k → w.heap.size ≤ k ∧ k ≠ g2 := by
    intro k hk; rcases hSV k hk with h | h
    · omega
    · omega
  have hxw : ∀ k, x.ownBlock = some k → w2.heap.size ≤ k ∧ ¬ SV k := fun k hk => ⟨(hx.lt k hk).1, hxS k hk⟩
  clear hV2 hW2 hK3 hSV hB2 hxS
  go_wp2_with fail
  refine (written_walk w3 _ g2 _ b hW3 (HB.out.keep (S := fun _ => False) (Keep.of_below hB3) (fun _ _ _ h => h)) (fun k hk hs => HB.out.fresh k hk (by omega)) (by rw [HM'.out]; omega)).mono ?_
  rintro e w4 ⟨y, SW, rfl, hW4, hy, hyS, hSW, hK4⟩
  have hV4 := hV3.keep hK4 (fun k h1 h2 => (hSVw k h1).2 h2)
  have hx4 := own_keep hx hK4 (fun k hk he => by have := (hxw k hk).1; omega)
  have hB4 : Below w.heap.size w w4 := hB3.trans (hK4.below hB3.size (by intro i hi h; omega))
  clear hV3 hW3 hx hK4 hSW hyS hB3 hxw hSVw
  obtain ⟨Ax, cx, rfl, _⟩ := own_shape hx4
  go_wp2_with fail
  refine (wPay w4 SV _ _ hV4 (by omega)).mono ?_
  rintro e w5 ⟨p, rfl, hp, hb5⟩
  have hW5 := hW4.keep (Keep.of_below hb5) (fun _ _ h => h)
  have hx5 := own_keep hx4 (Keep.of_below hb5) (fun _ _ h => h)
  have hy5 := own_keep hy (Keep.of_below hb5) (fun _ _ h => h)
  have hB5 := hB4.trans (hb5.mono hB4.size)
  clear hV4 hW4 hx4 hy hb5 hB4
  go_wp2_with fail
  refine (payload_walk w5 _ _ (Rd.own hx5) hba (by omega)).mono ?_
  rintro e w6 ⟨q, rfl, hq, hb6⟩
  have hW6 := hW5.keep (Keep.of_below hb6) (fun _ _ h => h)
  have hp6 := own_keep hp (Keep.of_below hb6) (fun _ _ h => h)
  have hy6 := own_keep hy5 (Keep.of_below hb6) (fun _ _ h => h)
  have hB6 := hB5.trans (hb6.mono hB5.size)
  clear hW5 hx5 hy5 hp hb6 hB5
  go_wp2_with fail
  refine (same_walk w6 p q _ _ (Rd.own hp6) (Rd.own hq) (payload_lt _ hba) (payload_lt _ hba)).mono ?_
  rintro e w7 ⟨rfl, rfl⟩
  rw [decide_eq_true (rfl : payload (allBits a) = payload (allBits a))]
  clear hq
  go_wp2_with fail
  refine (wPay w6 SW _ _ hW6 (by omega)).mono ?_
  rintro e w8 ⟨p2, rfl, hp2, hb8⟩
  have hp8 := own_keep hp6 (Keep.of_below hb8) (fun _ _ h => h)
  have hy8 := own_keep hy6 (Keep.of_below hb8) (fun _ _ h => h)
  have hB8 := hB6.trans (hb8.mono hB6.size)
  clear hW6 hp6 hy6 hb8 hB6
  go_wp2_with fail
  refine (payload_walk w8 _ _ (Rd.own hy8) hbb (by omega)).mono ?_
  rintro e w9 ⟨q2, rfl, hq2, hb9⟩
  have hp9 := own_keep hp8 (Keep.of_below hb9) (fun _ _ h => h)
  have hp29 := own_keep hp2 (Keep.of_below hb9) (fun _ _ h => h)
  have hB9 := hB8.trans (hb9.mono hB8.size)
  clear hp8 hy8 hp2 hb9 hB8
  go_wp2_with fail
  refine (same_walk w9 p2 q2 _ _ (Rd.own hp29) (Rd.own hq2) (payload_lt _ hbb) (payload_lt _ hbb)).mono ?_
  rintro e w10 ⟨rfl, rfl⟩
  rw [decide_eq_true (rfl : payload (allBits b) = payload (allBits b))]
  clear hq2 hp29
  have hend := end_payload _ hba
  have hpb : (payload (allBits a)).length ≤ 1000000000 := by rw [payload_length]; omega
  go_wp2_with fail
  refine (newReader w9 p _ (Rd.own hp9) (payload_lt _ hba) hpb (payload_ne _) (payload_last _ hba)).mono ?_
  rintro e w11 ⟨g3, S3, rfl, hR11, hS3, hb11⟩
  have hp11 := own_keep hp9 (Keep.of_below hb11) (fun _ _ h => h)
  have hB11 := hB9.trans (hb11.mono hB9.size)
  go_wp2_with fail
  refine (newReader w11 p _ (Rd.own hp11) (payload_lt _ hba) hpb (payload_ne _) (payload_last _ hba)).mono ?_
  rintro e w12 ⟨g4, S4, rfl, hQ12, hS4, hb12⟩
  rw [hend] at hR11 hQ12
  have hlt3 := isR_lt hR11
  have hg3 := isR_g hR11
  have hg3w := hS3 g3 hg3
  have hR12 := hR11.keep (Keep.of_below hb12) (fun _ _ h => h)
  have hB12 := hB11.trans (hb12.mono hB11.size)
  have hsz9 := hB9.size
  clear hp11 hp9 hR11 hB11 hb11 hb12 hpb
  have ht := rTake_any w12 S3 g3 _ _ 0 t hR12
  generalize takeVal _ 0 t = tv at ht
  generalize takeErr _ 0 t = te at ht
  generalize takeAt _ 0 t = ta at ht
  have HT := Lib.hid ht; clear ht hend
  generalize payload (allBits a) = pl at *
  generalize (allBits a).length = en at *
  go_wp2_with fail
  refine HT.out.mono ?_
  rintro e w13 ⟨rfl, hR13, hK13⟩
  have hQ13 := hQ12.keep hK13 (fun k h4 he => by have := hS4 k h4; have := hlt3 g3 hg3; omega)
  have hB13 : Below w.heap.size w w13 := hB12.trans (hK13.below hB12.size (fun i hi he => by omega))
  clear hR13 hK13 hQ12 hB12 hR12
  go_wp2_with fail
  refine (awake_walk _).mono ?_
  rintro e w14 ⟨rfl, hb14⟩
  have hQ14 := hQ13.keep (Keep.of_below hb14) (fun _ _ h => h)
  have hB14 := hB13.trans (hb14.mono hB13.size)
  clear hQ13 hB13 hb14
  go_wp2_with fail
  refine (rAt w14 S4 g4 _ _ 0 hQ14).mono ?_
  rintro e w15 ⟨rfl, rfl⟩
  have hl := rLeft w14 S4 g4 _ _ 0 hQ14
  rw [Nat.sub_zero] at hl
  go_wp2_with fail
  refine hl.mono ?_
  rintro e w16 ⟨rfl, m16, rfl⟩
  have HB14 := Lib.hid hB14; clear hB14 hl
  go_wp2
  go_ret
  exact ⟨rfl, ⟨HB14.out.os, HB14.out.tape, HB14.out.output, HB14.out.size, HB14.out.block⟩⟩

theorem apart_all (w : World) (va vb : Value) (a b : List (Int × Int)) (t : Int) (ha : RdO w va a) (hb : RdO w vb b) (_ht : (Lit.int .i64 t).wf = true) :
    Calls Try.prog 8 #[va, vb, .int .i64 t] w fun e w' => e = .returned (.bool true) ∧ Below w.heap.size w w' := by
  by_cases h : a.length ≤ 100 ∧ b.length ≤ 100
  · exact apart_walk w va vb a b t ha hb h
  · exact apart_big w va vb a b t ha hb (by omega)
end Go.Proofs.Ytalpogmfoihokaa
