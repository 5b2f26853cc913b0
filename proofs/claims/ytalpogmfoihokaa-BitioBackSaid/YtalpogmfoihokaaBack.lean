/- The walk of BitioBack. -/
import Derived.Test.YtalpogmfoihokaaReads
import Derived.Test.YtalpogmfoihokaaBits2
namespace Go.Proofs.Ytalpogmfoihokaa
open Go.RowKit Bt

theorem back_big (w : World) (va : Value) (a : List (Int × Int)) (ha : RdO w va a) (hl : 200 < a.length) :
    Calls Try.prog 7 #[va] w fun e w' => e = .returned (.bool true) ∧ Below w.heap.size w w' := by
  obtain ⟨A, ca, rfl, _⟩ := ha
  generalize a.length = n at *
  go_enter Try.func7, Try.ntmps7
  go_wp2
  go_ret
  exact ⟨rfl, Below.refl _ _⟩

/-- the bits of call i, out of all of them -/
theorem bits_at (os : List (Int × Int)) (i : Nat) (h : i < os.length) : ((allBits os).drop (allBits (os.take i)).length).take (putBits os[i].1 os[i].2).length = putBits os[i].1 os[i].2 := by
  have e : allBits os = allBits (os.take i) ++ (putBits os[i].1 os[i].2 ++ allBits (os.drop (i + 1))) := by
    rw [← List.append_assoc, ← allBits_take os i h]
    unfold allBits
    rw [← List.flatMap_append, List.take_append_drop]
  rw [e, List.drop_left, List.take_left]

theorem bits_fit (os : List (Int × Int)) (i : Nat) (h : i < os.length) : (allBits (os.take i)).length + (putBits os[i].1 os[i].2).length ≤ (allBits os).length := by
  have h1 := allBits_take os i h
  have e : allBits os = allBits (os.take (i + 1)) ++ allBits (os.drop (i + 1)) := by
    unfold allBits
    rw [← List.flatMap_append, List.take_append_drop]
  rw [e, h1]
  simp only [List.length_append]
  omega

theorem put_value (V N : Int) (hv : 0 ≤ V ∧ V < 4294967296) (hm : mayOf V N = 0) : putBits V N = bitsOf V.toNat N.toNat ∧ (valueOf (bitsOf V.toNat N.toNat) : Int) = V := by
  obtain ⟨h1, h2⟩ := mayOf_zero hm
  refine ⟨by unfold putBits; rw [if_pos hm], ?_⟩
  rw [valueOf_bitsOf]
  have e : V / 2 ^ N.toNat = ((V.toNat / 2 ^ N.toNat : Nat) : Int) := by
    have : V = (V.toNat : Int) := by omega
    rw [Int.natCast_ediv, Int.natCast_pow, ← this]; rfl
  rw [e] at h2
  have h3 : V.toNat / 2 ^ N.toNat = 0 := by
    generalize V.toNat / 2 ^ N.toNat = q at h2 ⊢
    omega
  have h4 : V.toNat < 2 ^ N.toNat := by
    rcases Nat.lt_or_ge V.toNat (2 ^ N.toNat) with h | h
    · exact h
    · have := Nat.div_pos h (Nat.pow_pos (by decide)); omega
  rw [Nat.mod_eq_of_lt h4]
  omega

set_option maxHeartbeats 2000000 in
theorem back_walk (w : World) (va : Value) (a : List (Int × Int)) (ha : RdO w va a) (hl : a.length ≤ 200) :
    Calls Try.prog 7 #[va] w fun e w' => e = .returned (.bool true) ∧ Below w.heap.size w w' := by
  have n1 : (a.length : Int) ≤ 200 := by omega
  have HA := Lib.hid ha
  obtain ⟨A, ca, rfl, hav, hac⟩ := ha
  have HAC := Lib.hid hac
  have HAV := Lib.hid hav; clear hav hac
  generalize hm : a.length = m at *
  have HM := Lib.hid hm; clear hm
  go_enter Try.func7, Try.ntmps7
  go_wp2_with fail
  refine (newWriter w).mono ?_
  rintro e w1 ⟨rfl, hW1, hb1⟩
  go_wp2_with fail
  refine (written_walk w1 _ w.heap.size _ a hW1 (HA.out.keep (Keep.of_below hb1) (fun _ _ _ h => h)) (fun k hk hs => HA.out.fresh k hk (by omega)) (by rw [HM.out]; exact hl)).mono ?_
  rintro e w2 ⟨x, S2, rfl, hW2, _, _, hS2, hK2⟩
  have hxl := allBits_length a
  rw [HM.out] at hxl
  have hbin := allBits_bin a
  have hbw2 : Below w.heap.size w w2 := hb1.trans (hK2.below hb1.size (by intro i hi h; omega))
  have hS2' : ∀ k, S2 k → w.heap.size ≤ k := by
    intro k hk; rcases hS2 k hk with h | h
    · omega
    · have := hb1.size; omega
  clear hW1 hb1 hK2 hS2
  go_wp2_with fail
  refine (wPay w2 S2 _ _ hW2 (by omega)).mono ?_
  rintro e w3 ⟨p, rfl, hp, hb3⟩
  have hW3 := hW2.keep (Keep.of_below hb3) (fun _ _ h => h)
  have hbw3 := hbw2.trans (hb3.mono hbw2.size)
  have hend := end_payload _ hbin
  have htk := take_payload _ hbin
  go_wp2_with fail
  refine (newReader w3 p _ (Rd.own hp) (payload_lt _ hbin) (by rw [payload_length]; omega) (payload_ne _) (payload_last _ hbin)).mono ?_
  rintro e w4 ⟨g1, S1, rfl, hR, hS1, hb4⟩
  rw [hend] at hR
  have hW4 := hW3.keep (Keep.of_below hb4) (fun _ _ h => h)
  have hbw4 := hbw3.trans (hb4.mono hbw3.size)
  have hg1 : S1 g1 := hR.choose_spec.2.2.2.2.2.2.1
  have hg1w : w.heap.size ≤ g1 := by have := hS1 g1 hg1; have := hbw3.size; omega
  generalize payload (allBits a) = pl at *
  obtain ⟨en, hen⟩ : ∃ en, en = (allBits a).length := ⟨_, rfl⟩
  rw [← hen] at hR htk hxl
  have hcL : ∀ w' at_, IsR w' S1 g1 pl en at_ → Calls Try.prog 17 #[.pointer (some ⟨g1, 0, none⟩)] w' fun e w'' => e = .returned (.int .i64 ((en - at_ : Nat) : Int)) ∧ ∃ m, w'' = w'.drewN m := fun w' at_ h => rLeft w' S1 g1 pl en at_ h
  have hcW : ∀ w', IsW w' S2 w.heap.size (allBits a) → Calls Try.prog 20 #[.pointer (some ⟨w.heap.size, 0, none⟩)] w' fun e w'' => e = .returned (.int .i64 en) ∧ w' = w'' := fun w' h => by
    rw [hen]; exact wLen w' S2 _ _ h
  have HCL := Lib.hid hcL; clear hcL
  have HCW := Lib.hid hcW; clear hcW
  have HEN := Lib.hid hen; clear hen
  have HTK := Lib.hid htk; clear htk hend
  clear hp hb3 hb4 hW2 hW3 hbw2 hbw3 hS2'
  have hq0 := HCL.out w4 0 hR
  rw [Nat.sub_zero] at hq0
  have HQ0 := Lib.hid hq0; clear hq0
  go_wp2_with fail
  refine HQ0.out.mono ?_
  rintro e w5 ⟨rfl, m5, rfl⟩
  go_wp2_with fail
  refine (HCW.out _ (by exact hW4)).mono ?_
  rintro e w6 ⟨rfl, rfl⟩
  have hIR : IsR (w4.drewN m5) S1 g1 pl en 0 := hR
  have hB6 : Below w.heap.size w (w4.drewN m5) := ⟨hbw4.os, hbw4.tape, hbw4.output, hbw4.size, hbw4.block⟩
  generalize w4.drewN m5 = w6 at *
  clear hR hW4 hbw4
  have hg1b : ∀ k, k < w.heap.size → ¬ k = g1 := fun k hk he => by omega
  have hen9 : en ≤ 6400 := by omega
  go_wp2_with fail
  go_loopw [8] (fun t wr => ∃ i : Nat, i ≤ m ∧ t = .int .i64 i ∧ IsR wr S1 g1 pl en (allBits (a.take i)).length ∧ Below w.heap.size w wr) (fun t _ => m - (intOf t).toNat)
  case atStart => exact ⟨0, Nat.zero_le _, rfl, hIR, hB6⟩
  case round =>
    clear hIR hB6
    obtain ⟨i, hin, rfl, hR, hB⟩ := hrel
    by_cases hlt : i < m
    · have hla : i < a.length := by rw [HM.out]; exact hlt
      obtain ⟨b, off, rfl, cv, cn⟩ := HAC.out i a[i] (List.getElem?_eq_getElem hla)
      have hbb : b < w.heap.size := World.block_lt_of_cell? _ _ cv
      have cv' : wr.cell? ⟨b, off + i * 2, none⟩ = some (.int .u32 a[i].1) := (hB.cell (p := ⟨b, off + i * 2, none⟩) hbb).trans cv
      have cn' : wr.cell? ⟨b, off + i * 2 + 1, none⟩ = some (.int .i64 a[i].2) := (hB.cell (p := ⟨b, off + i * 2 + 1, none⟩) hbb).trans cn
      have hrv := HAV.out a[i] (List.getElem_mem hla)
      have hstep := allBits_take a i hla
      have hba := bits_at a i hla
      have hbf := bits_fit a i hla
      rw [← HEN.out] at hbf
      generalize a[i].1 = V at *
      generalize a[i].2 = N at *
      clear cv cn
      by_cases hm0 : mayOf V N = 0
      · have hmb : (mayOf V N != 0) = false := by simp [hm0]
        obtain ⟨hpb, hval⟩ := put_value V N hrv hm0
        have hN := (mayOf_zero hm0).1
        rw [hpb] at hstep hba hbf
        rw [bitsOf_length] at hba hbf
        have hlen : (allBits (a.take (i + 1))).length = (allBits (a.take i)).length + N.toNat := by rw [hstep, List.length_append, bitsOf_length]
        have htk2 := take_en pl en (allBits (a.take i)).length N.toNat hbf
        rw [HTK.out, hba] at htk2
        obtain ⟨at_, hat⟩ : ∃ at_, at_ = (allBits (a.take i)).length := ⟨_, rfl⟩
        rw [← hat] at hR htk2 hbf hlen
        have HLEN := Lib.hid hlen; clear hlen
        have HVAL := Lib.hid hval; clear hval
        have HTK2 := Lib.hid htk2; clear htk2
        have HM0 := Lib.hid hm0; clear hm0
        clear hstep hba hpb hat
        go_wp2_with fail
        go_quiet ((go_at_call 25; exact quiet_same (may_walk _ _ _ hrv)))
        have hR3 : IsR (wr.drewN nq) S1 g1 pl en at_ := hR
        have hB3 : Below w.heap.size w (wr.drewN nq) := ⟨hB.os, hB.tape, hB.output, hB.size, hB.block⟩
        have cv3 : (wr.drewN nq).cell? ⟨b, off + i * 2, none⟩ = some (.int .u32 V) := cv'
        have cn3 : (wr.drewN nq).cell? ⟨b, off + i * 2 + 1, none⟩ = some (.int .i64 N) := cn'
        generalize wr.drewN nq = w7 at *
        clear hR hB cv' cn'
        go_wp2_with fail
        refine (rTake w7 S1 g1 pl en at_ N hR3 hN (by omega)).mono ?_
        rw [HTK2.out, HVAL.out]
        rintro e w8 ⟨rfl, hR8, hK8⟩
        have cv8 : w8.cell? ⟨b, off + i * 2, none⟩ = some (.int .u32 V) := hK8.cell cv3 (hg1b b hbb)
        have hB8 : Below w.heap.size w w8 := hB3.trans (hK8.below hB3.size (fun k hk => hg1b k hk))
        rw [← HLEN.out] at hR8
        clear hR3 hB3 cv3 cn3 hK8
        go_wp2
        go_roundw
        case rel => exact ⟨i + 1, by omega, by go_num, hR8, hB8⟩
        case measure => simp [intOf] <;> omega
      · have hmb : (mayOf V N != 0) = true := by simp [hm0]
        have hpb : putBits V N = [] := by unfold putBits; rw [if_neg hm0]
        rw [hpb, List.append_nil] at hstep
        rw [← hstep] at hR
        clear hba hbf hpb hm0 hstep
        go_wp2_with fail
        go_quiet ((go_at_call 25; exact quiet_same (may_walk _ _ _ hrv)))
        go_wp2
        go_roundw
        case rel => exact ⟨i + 1, by omega, by go_num, hR, ⟨hB.os, hB.tape, hB.output, hB.size, hB.block⟩⟩
        case measure => simp [intOf] <;> omega
    · obtain rfl : i = m := by omega
      rw [List.take_of_length_le (by rw [HM.out]; exact Nat.le_refl _), ← HEN.out] at hR
      have hq9 : ∀ w', IsR w' S1 g1 pl en en → Calls Try.prog 17 #[.pointer (some ⟨g1, 0, none⟩)] w' fun e w'' => e = .returned (.int .i64 0) ∧ ∃ m, w'' = w'.drewN m := fun w' h => by
        have := HCL.out w' en h
        rwa [Nat.sub_self] at this
      have HQ9 := Lib.hid hq9; clear hq9
      go_wp2_with fail
      refine (rTake_short wr S1 g1 pl en en 1 hR (by decide) (by omega)).mono ?_
      rintro e w8 ⟨rfl, m8, rfl⟩
      have hR8 : IsR (wr.drewN m8) S1 g1 pl en en := hR
      have hB8 : Below w.heap.size w (wr.drewN m8) := ⟨hB.os, hB.tape, hB.output, hB.size, hB.block⟩
      generalize wr.drewN m8 = w8 at *
      clear hR hB
      go_wp2_with fail
      refine (awake_walk _).mono ?_
      rintro e w9 ⟨rfl, hb9⟩
      have hR9 := hR8.keep (Keep.of_below hb9) (fun _ _ h => h)
      have hB9 := hB8.trans (hb9.mono hB8.size)
      clear hb9 hR8 hB8
      go_wp2_with fail
      refine (HQ9.out _ hR9).mono ?_
      rintro e w10 ⟨rfl, m10, rfl⟩
      have HB9 := Lib.hid hB9; clear hB9
      go_wp2
      go_ret
      exact ⟨rfl, ⟨HB9.out.os, HB9.out.tape, HB9.out.output, HB9.out.size, HB9.out.block⟩⟩

theorem back_all (w : World) (va : Value) (a : List (Int × Int)) (ha : RdO w va a) :
    Calls Try.prog 7 #[va] w fun e w' => e = .returned (.bool true) ∧ Below w.heap.size w w' := by
  by_cases h : a.length ≤ 200
  · exact back_walk w va a ha h
  · exact back_big w va a ha (by omega)
end Go.Proofs.Ytalpogmfoihokaa
