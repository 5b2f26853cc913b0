/- The walk of BitioWrites. -/
import Derived.Test.YtalpogmfoihokaaLaw2
namespace Go.Proofs.Ytalpogmfoihokaa
open Go.RowKit Bt

theorem writes_big (w : World) (va vb : Value) (a b : List (Int × Int)) (ha : RdO w va a) (hb : RdO w vb b) (hl : 200 < a.length ∨ 200 < b.length) :
    Calls Try.prog 3 #[va, vb] w fun e w' => e = .returned (.bool true) ∧ Below w.heap.size w w' := by
  obtain ⟨A, ca, rfl, _⟩ := ha
  obtain ⟨B, cb, rfl, _⟩ := hb
  generalize a.length = n at *
  generalize b.length = m at *
  by_cases h1 : 200 < n
  · clear hl
    go_enter Try.func3, Try.ntmps3
    go_wp2
    go_ret
    exact ⟨rfl, Below.refl _ _⟩
  · have h2 : 200 < m := by omega
    clear hl
    go_enter Try.func3, Try.ntmps3
    go_wp2
    go_ret
    exact ⟨rfl, Below.refl _ _⟩

set_option maxHeartbeats 1000000 in
theorem writes_walk (w : World) (va vb : Value) (a b : List (Int × Int)) (ha : RdO w va a) (hb : RdO w vb b) (hl : a.length ≤ 200 ∧ b.length ≤ 200) :
    Calls Try.prog 3 #[va, vb] w fun e w' => e = .returned (.bool true) ∧ Below w.heap.size w w' := by
  obtain ⟨i0, hi, hz0, hz1, hz2⟩ := info_parts info_u8
  obtain ⟨A, ca, rfl, hav, hac⟩ := ha
  have ha : RdO w (.slice A a.length ca) a := ⟨A, ca, rfl, hav, hac⟩
  have HA := Lib.hid ha; clear ha hav hac
  obtain ⟨B, cb, rfl, hbv, hbc⟩ := hb
  have HBC := Lib.hid hbc
  have HBV := Lib.hid hbv; clear hbv hbc
  have n1 : (a.length : Int) ≤ 200 := by omega
  have n2 : (b.length : Int) ≤ 200 := by omega
  go_enter Try.func3, Try.ntmps3
  go_wp2_with fail
  refine (newWriter w).mono ?_
  rintro e w1 ⟨rfl, hW1, hb1⟩
  go_wp2_with fail
  refine (written_walk w1 _ w.heap.size _ a hW1 (HA.out.keep (Keep.of_below hb1) (fun _ _ _ h => h)) ?_ hl.1).mono ?_
  · intro k hk hs
    exact HA.out.fresh k hk (by omega)
  rintro e w2 ⟨x, S2, rfl, hW2, hx, hxS, hS2, hK2⟩
  have hxl := allBits_length a
  have hbw2 : Below w.heap.size w w2 := hb1.trans (hK2.below hb1.size (by intro i hi h; omega))
  go_wp2_with fail
  refine (wPay w2 S2 _ _ hW2 (by omega)).mono ?_
  rintro e w3 ⟨p, rfl, hp, hb3⟩
  have hx3 := own_keep hx (Keep.of_below hb3) (fun _ _ h => h)
  go_wp2_with fail
  refine (payload_walk w3 x (allBits a) (Rd.own hx3) (allBits_bin a) (by omega)).mono ?_
  rintro e w4 ⟨q, rfl, hq, hb4⟩
  have hp4 := own_keep hp (Keep.of_below hb4) (fun _ _ h => h)
  have hx4 := own_keep hx3 (Keep.of_below hb4) (fun _ _ h => h)
  have hlt256 : ∀ l : List Nat, Bin l → ∀ z ∈ payload l, z < 256 := payload_lt
  go_wp2_with fail
  refine (same_walk w4 p q _ _ (Rd.own hp4) (Rd.own hq) (payload_lt _ (allBits_bin a)) (payload_lt _ (allBits_bin a))).mono ?_
  rintro e w5 ⟨rfl, rfl⟩
  have hdt : decide (payload (allBits a) = payload (allBits a)) = true := by simp
  have hW4 := (hW2.keep (Keep.of_below hb3) (fun _ _ h => h)).keep (Keep.of_below hb4) (fun _ _ h => h)
  have hbw4 : Below w.heap.size w w4 := (hbw2.trans (hb3.mono hbw2.size)).trans (hb4.mono (Nat.le_trans hbw2.size hb3.size))
  have hS2' : ∀ k, S2 k → w.heap.size ≤ k := by
    intro k hk; rcases hS2 k hk with h | h
    · omega
    · have := hb1.size; omega
  have hx4b : ∀ k, x.ownBlock = some k → w.heap.size ≤ k ∧ ¬ S2 k := fun k hk => ⟨by have := (hx.lt k hk).1; have := hb1.size; omega, hxS k hk⟩
  clear hp hq hp4 hx hx3 hxS hW1 hW2 hK2 hS2 hb3 hb4 hb1 hbw2
  have hnew : (w4.alloc (.cells #[] 5)).ownsRow 0 5 1 (.slice (some ⟨w4.heap.size, 0, none⟩) 0 0) 0 [] := World.ownsRow_made _ _ _ (Nat.zero_le _) (by unfold maxLen; omega) rfl
  have hxr : Rd (w4.alloc (.cells #[] 5)) x (u8s (allBits a)) := (Rd.own hx4).keep ((Keep.refl (fun _ => False) _).alloc _) (fun _ _ h => h)
  go_wp2_with (at_builtin; refine wpList_append_row _ rfl _ _ 25 rfl 5 i0 (.int .u8 0) 1 Try.underlying25 hi hz0 hz1 hz2 rfl (.slice (some ⟨w4.heap.size, 0, none⟩) 0 0) 0 [] rfl hnew x (u8s (allBits a)) rfl hxr (u8s_one _) ?h1 ?h2 ?h3)
  case h1 => rw [u8s_length]; unfold maxLen; omega
  case h2 => rw [u8s_length]; omega
  case h3 =>
    intro v5 w5 hown5 hgr5 hblk5
    have hsz4 := hbw4.size
    have hblk5' : ∀ k, v5.ownBlock = some k → w.heap.size ≤ k ∧ ¬ S2 k := by
      intro k hk
      have hlt : ∀ k, S2 k → k < w4.heap.size := hW4.choose_spec.2.2.2.2.2
      rcases hblk5 with h | h
      · rw [h] at hk; cases hk; exact ⟨by omega, fun hs => absurd (hlt _ hs) (Nat.lt_irrefl _)⟩
      · rw [h] at hk; cases hk; exact ⟨by simp; omega, fun hs => absurd (hlt _ hs) (by simp)⟩
    have hW5 : IsW w5 S2 w.heap.size (allBits a ++ allBits (b.take 0)) := by
      have : IsW w5 S2 w.heap.size (allBits a) := hW4.keep (T := fun k => k = w4.heap.size) (((Keep.refl _ _).alloc _).grown hgr5 (fun i hi => by cases hi; exact .inl rfl)) (fun k hs he => absurd (hW4.choose_spec.2.2.2.2.2 _ hs) (by subst he; exact Nat.lt_irrefl _))
      simpa [allBits] using this
    have ho5 : w5.ownsRow w.heap.size 5 1 v5 (allBits a ++ allBits (b.take 0)).length (u8s (allBits a ++ allBits (b.take 0))) := by
      have := own_base (base' := w.heap.size) hown5 (fun k hk => (hblk5' k hk).1)
      simpa [allBits, u8s_length] using this
    have hB5 : Below w.heap.size w w5 := (hbw4.alloc hsz4 _).grown hgr5 (by simp; omega) (fun k hk => by cases hk; omega)
    clear hown5 hgr5 hblk5 hW4 hbw4 hx4 hx4b hxr hnew hsz4 hdt hlt256
    go_wp2_with fail
    go_loopw [8, 9] (fun s t wr => ∃ i : Nat, i ≤ b.length ∧ t = .int .i64 i ∧ ∃ S', IsW wr S' w.heap.size (allBits a ++ allBits (b.take i)) ∧
      wr.ownsRow w.heap.size 5 1 s (allBits a ++ allBits (b.take i)).length (u8s (allBits a ++ allBits (b.take i))) ∧ (∀ k, s.ownBlock = some k → ¬ S' k) ∧ (∀ k, S' k → w.heap.size ≤ k) ∧ Below w.heap.size w wr) (fun _ t _ => b.length - (intOf t).toNat)
    case atStart => exact ⟨0, Nat.zero_le _, rfl, S2, hW5, ho5, fun k hk => (hblk5' k hk).2, hS2', hB5⟩
    case round =>
      clear hW5 ho5 hblk5' hS2' hB5
      obtain ⟨i, hin, rfl, S', hW, ho, hoS, hS', hB⟩ := hrel
      by_cases hlt : i < b.length
      · obtain ⟨bb, off, rfl, cv, cn⟩ := HBC.out i b[i] (List.getElem?_eq_getElem hlt)
        have hbb : bb < w.heap.size := World.block_lt_of_cell? _ _ cv
        have cv' : wr.cell? ⟨bb, off + i * 2, none⟩ = some (.int .u32 b[i].1) := (hB.cell (p := ⟨bb, off + i * 2, none⟩) hbb).trans cv
        have cn' : wr.cell? ⟨bb, off + i * 2 + 1, none⟩ = some (.int .i64 b[i].2) := (hB.cell (p := ⟨bb, off + i * 2 + 1, none⟩) hbb).trans cn
        have hrv := HBV.out b[i] (List.getElem_mem hlt)
        have hstep := allBits_take b i hlt
        have hlen := allBits_length (b.take i)
        rw [List.length_take] at hlen
        generalize b[i].1 = V at *
        generalize b[i].2 = N at *
        obtain ⟨L, hL⟩ : ∃ L, L = allBits a ++ allBits (b.take i) := ⟨_, rfl⟩
        have hLl : L.length ≤ 20000 := by rw [hL, List.length_append]; omega
        have hstep' : allBits a ++ allBits (b.take (i + 1)) = L ++ putBits V N := by rw [hstep, hL, List.append_assoc]
        rw [← hL] at hW ho
        have HS := Lib.hid hstep'; clear hstep' hstep hL hlen
        obtain ⟨A8, c8, rfl, _⟩ := own_shape ho
        have hpl := putBits_length V N
        have hq0 := written2_walk wr S' w.heap.size L V N (L.length : Int) hW (by omega) rfl hrv
        generalize putBits V N = PB at *
        have hq : Calls Try.prog 14 #[.pointer (some ⟨w.heap.size, 0, none⟩), .agg #[.int .u32 V, .int .i64 N], .int .i64 (L.length : Int)] wr (Written2 wr S' w.heap.size L PB) := hq0
        clear hq0
        have HQ := Lib.hid hq; clear hq
        clear cv cn
        go_wp2_with fail
        refine HQ.out.mono ?_
        rintro e w6 ⟨v2, S6, rfl, hW6, ho6, ho6S, hS6, hK6⟩
        have hoo := own_keep ho hK6 hoS
        have hwsz := hB.size
        have h8 : ∀ k, (Value.slice A8 L.length c8).ownBlock = some k → w.heap.size ≤ k ∧ ¬ S6 k := by
          intro k hk
          refine ⟨(ho.lt k hk).1, fun hs => ?_⟩
          rcases hS6 k hs with h | h
          · exact hoS k hk h
          · have := own_lt ho hk; omega
        go_wp2_with (at_builtin; refine wpList_append_row _ rfl _ _ 25 rfl 5 i0 (.int .u8 0) 1 Try.underlying25 hi hz0 hz1 hz2 rfl (.slice A8 L.length c8) L.length (u8s L) rfl (own_base hoo (fun _ _ => Nat.zero_le _)) v2 (u8s PB) rfl (Rd.own ho6) (u8s_one _) ?h1 ?h2 ?h3)
        case h1 => rw [u8s_length]; unfold maxLen; omega
        case h2 => rw [u8s_length]; omega
        case h3 =>
          intro v7 w7 hown7 hgr7 hblk7
          have hlt6 : ∀ k, S6 k → k < w6.heap.size := hW6.choose_spec.2.2.2.2.2
          have h7 : ∀ k, v7.ownBlock = some k → w.heap.size ≤ k ∧ ¬ S6 k := by
            intro k hk
            rcases hblk7 with h | h
            · rw [h] at hk; exact h8 k hk
            · rw [h] at hk; cases hk
              have := hK6.size
              exact ⟨by omega, fun hs => absurd (hlt6 _ hs) (Nat.lt_irrefl _)⟩
          have fin : ∃ S'', IsW w7 S'' w.heap.size (allBits a ++ allBits (b.take (i + 1))) ∧
              w7.ownsRow w.heap.size 5 1 v7 (allBits a ++ allBits (b.take (i + 1))).length (u8s (allBits a ++ allBits (b.take (i + 1)))) ∧ (∀ k, v7.ownBlock = some k → ¬ S'' k) ∧ (∀ k, S'' k → w.heap.size ≤ k) ∧ Below w.heap.size w w7 := by
            refine ⟨S6, ?_, ?_, fun k hk => (h7 k hk).2, ?_, ?_⟩
            · rw [HS.out]
              exact hW6.keep (T := fun k => (Value.slice A8 L.length c8).ownBlock = some k) ((Keep.refl _ _).grown hgr7 (fun i hi => .inl hi)) (fun k hs hk => (h8 k hk).2 hs)
            · rw [HS.out]
              have := own_base (base' := w.heap.size) hown7 (fun k hk => (h7 k hk).1)
              simpa [u8s] using this
            · intro k hs
              rcases hS6 k hs with h | h
              · exact hS' k h
              · omega
            · exact (hB.trans (hK6.below hwsz (fun i hi hs => by have := hS' i hs; omega))).grown hgr7 (by have := hK6.size; omega) (fun k hk => (h8 k hk).1)
          have HF := Lib.hid fin; clear fin
          clear hown7 hgr7 hblk7 h7 h8 hlt6 hoo ho6 ho6S hW6 hS6 hK6 ho hW hS' hoS hB
          go_wp2
          go_roundw
          case rel => exact ⟨i + 1, by omega, by go_num, HF.out⟩
          case measure => simp [intOf] <;> omega
      · obtain rfl : i = b.length := by omega
        rw [List.take_length] at hW ho
        have hxb := allBits_length b
        obtain ⟨L, hL⟩ : ∃ L, L = allBits a ++ allBits b := ⟨_, rfl⟩
        rw [← hL] at hW ho
        have hLl : L.length ≤ 20000 := by rw [hL, List.length_append]; omega
        have hLb : Bin L := by rw [hL]; exact bin_append (allBits_bin a) (allBits_bin b)
        clear hL hxb
        go_wp2_with fail
        refine (awake_walk wr).mono ?_
        rintro e w6 ⟨rfl, hb6⟩
        have hW6 := hW.keep (Keep.of_below hb6) (fun _ _ h => h)
        have ho6 := own_keep ho (Keep.of_below hb6) (fun _ _ h => h)
        have hB6 := hB.trans (hb6.mono hB.size)
        go_wp2_with fail
        refine (wPay w6 S' _ _ hW6 (by omega)).mono ?_
        rintro e w7 ⟨p7, rfl, hp7, hb7⟩
        have ho7 := own_keep ho6 (Keep.of_below hb7) (fun _ _ h => h)
        have hB7 := hB6.trans (hb7.mono hB6.size)
        go_wp2_with fail
        refine (payload_walk w7 _ L (Rd.own ho7) hLb (by omega)).mono ?_
        rintro e w8 ⟨q8, rfl, hq8, hb8⟩
        have hp8 := own_keep hp7 (Keep.of_below hb8) (fun _ _ h => h)
        have hB8 := hB7.trans (hb8.mono hB7.size)
        go_wp2_with fail
        refine (same_walk w8 p7 q8 _ _ (Rd.own hp8) (Rd.own hq8) (payload_lt _ hLb) (payload_lt _ hLb)).mono ?_
        rintro e w9 ⟨rfl, rfl⟩
        have hdt : decide (payload L = payload L) = true := by simp
        clear hb6 hb7 hb8 hp7 hp8 hq8 ho7 ho6 hW6 hW ho hB hB6 hB7 hoS hS'
        go_wp2
        go_ret
        exact ⟨by simp, hB8⟩

theorem writes_all (w : World) (va vb : Value) (a b : List (Int × Int)) (ha : RdO w va a) (hb : RdO w vb b) :
    Calls Try.prog 3 #[va, vb] w fun e w' => e = .returned (.bool true) ∧ Below w.heap.size w w' := by
  by_cases h : a.length ≤ 200 ∧ b.length ≤ 200
  · exact writes_walk w va vb a b ha hb h
  · exact writes_big w va vb a b ha hb (by omega)
end Go.Proofs.Ytalpogmfoihokaa
