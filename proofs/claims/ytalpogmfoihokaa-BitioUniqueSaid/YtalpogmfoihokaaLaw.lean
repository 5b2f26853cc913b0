/- The walks of the statements' own helpers: awake, written, written2. -/
import Derived.Test.YtalpogmfoihokaaOpen
namespace Go.Proofs.Ytalpogmfoihokaa
open Go.RowKit Bt

theorem mayOf_zero {v n : Int} (h : mayOf v n = 0) : (0 ≤ n ∧ n ≤ 32) ∧ v / 2 ^ n.toNat ≤ 0 := by
  unfold mayOf at h
  split at h
  · cases h
  · split at h
    · exact ⟨by omega, by assumption⟩
    · cases h

/-- what a call of Put appends -/
def putBits (v n : Int) : List Nat := if mayOf v n = 0 then bitsOf v.toNat n.toNat else []
theorem putBits_bin (v n : Int) : Bin (putBits v n) := by
  unfold putBits; split
  · exact bitsOf_bin _ _
  · intro x hx; simp at hx
theorem putBits_length (v n : Int) : (putBits v n).length ≤ 32 := by
  unfold putBits; split
  · rename_i h; have := mayOf_zero h; rw [bitsOf_length]; omega
  · simp

theorem wPut_any (w : World) (S : Nat → Prop) (g : Nat) (l : List Nat) (v n : Int) (h : IsW w S g l) (hl : l.length ≤ 1000000000) (hv : 0 ≤ v ∧ v < 4294967296) :
    Calls Try.prog 19 #[.pointer (some ⟨g, 0, none⟩), .int .u32 v, .int .i64 n] w fun e w' => e = .returned (.int .i64 (mayOf v n)) ∧
      ∃ S', IsW w' S' g (l ++ putBits v n) ∧ (∀ k, S' k → S k ∨ w.heap.size ≤ k) ∧ Keep S w w' := by
  have hid : ∀ w', w = w' → ∃ S', IsW w' S' g (l ++ []) ∧ (∀ k, S' k → S k ∨ w.heap.size ≤ k) ∧ Keep S w w' := by
    rintro w' rfl
    exact ⟨S, by simpa using h, fun _ hk => .inl hk, Keep.refl _ _⟩
  unfold putBits
  by_cases h0 : n < 0 ∨ 32 < n
  · have hm : mayOf v n = 1 := by unfold mayOf; rw [if_pos h0]
    rw [hm, if_neg (by decide)]
    exact (wPut_arg w g v n h0).mono fun e w' ⟨he, hw⟩ => ⟨he, hid w' hw⟩
  · by_cases h1 : v / 2 ^ n.toNat ≤ 0
    · have hm : mayOf v n = 0 := by unfold mayOf; rw [if_neg h0, if_pos h1]
      rw [hm, if_pos rfl]
      exact wPut w S g l v n h hl hv (by omega) h1
    · have hm : mayOf v n = 2 := by unfold mayOf; rw [if_neg h0, if_neg h1]
      rw [hm, if_neg (by decide)]
      exact (wPut_range w g v n hv (by omega) (by omega)).mono fun e w' ⟨he, hw⟩ => ⟨he, hid w' hw⟩

set_option maxHeartbeats 400000 in
theorem awake_walk (w : World) : Calls Try.prog 15 #[] w fun e w' => e = .returned (.bool true) ∧ Below w.heap.size w w' := by
  go_enter Try.func15, Try.ntmps15
  go_wp2_with fail
  refine (newWriter w).mono ?_
  rintro e w1 ⟨rfl, hW, hb1⟩
  go_wp2_with fail
  refine (wPut w1 _ w.heap.size [] 5 3 hW (by simp) (by decide) (by decide) (by decide)).mono ?_
  rintro e w2 ⟨rfl, S', hW2, hS2, hK2⟩
  go_wp2_with fail
  refine (wPay w2 _ _ _ hW2 (by simp [bitsOf_length])).mono ?_
  rintro e w3 ⟨v, rfl, ho, hb3⟩
  have hp : payload ([] ++ bitsOf (5 : Int).toNat (3 : Int).toNat) = [176] := by decide
  rw [hp] at ho
  obtain ⟨gb, cap, cur, rfl, _, hgb, hcap, hcm, hcs, htake⟩ : ∃ gb cap cur, v = .slice (some ⟨gb, 0, none⟩) 1 cap ∧ w2.heap.size ≤ gb ∧ w3.heap[gb]? = some (.cells cur 5 (0, 0)) ∧ 1 ≤ cap ∧ cap ≤ maxLen ∧ cur.size = cap * 1 ∧ cur.toList.take (1 * 1) = u8s [176] := by
    rcases ho.2 with ⟨_, h0⟩ | ⟨gb, cap, cur, q1, q0, q2, q3, q4, q5, q6⟩
    · simp at h0
    · exact ⟨gb, cap, cur, q1, q0, q2, q3, q4, q5, q6⟩
  have cx : w3.cell? ⟨gb, 0, none⟩ = some (.int .u8 176) := by
    rw [cell_of_row _ _ _ _ _ _ hgb]
    exact row_get (p := [176]) htake (by decide)
  have fin : Below w.heap.size w w3 := (hb1.trans ((hK2.below (B := w.heap.size) (by exact hb1.size) (by intro i hi h; omega)))).trans (hb3.mono (Nat.le_trans hb1.size hK2.size))
  have HF := Lib.hid fin; clear fin
  clear hgb htake hcs hcm hcap ho hp hb3 hK2 hS2 hW2 hW hb1
  go_wp2
  go_ret
  exact ⟨rfl, HF.out⟩

/-- the slice v has the calls os -/
def RdO (w : World) (v : Value) (os : List (Int × Int)) : Prop :=
  ∃ A c, v = .slice A os.length c ∧ (∀ o ∈ os, 0 ≤ o.1 ∧ o.1 < 4294967296) ∧
    ∀ (i : Nat) o, os[i]? = some o → ∃ b off, A = some ⟨b, off, none⟩ ∧ w.cell? ⟨b, off + i * 2, none⟩ = some (.int .u32 o.1) ∧ w.cell? ⟨b, off + i * 2 + 1, none⟩ = some (.int .i64 o.2)

theorem RdO.fresh {w : World} {v : Value} {os : List (Int × Int)} (h : RdO w v os) (k : Nat) (hk : v.ownBlock = some k) (hn : w.heap.size ≤ k) : os = [] := by
  obtain ⟨A, c, rfl, h1, h2⟩ := h
  cases os with
  | nil => rfl
  | cons o r =>
    obtain ⟨b, off, rfl, h3, _⟩ := h2 0 o rfl
    have hb : b < w.heap.size := World.block_lt_of_cell? _ _ h3
    cases hk
    exact absurd hn (Nat.not_le.2 hb)

theorem RdO.keep {w w' : World} {S : Nat → Prop} {v : Value} {os : List (Int × Int)} (h : RdO w v os) (hk : Keep S w w') (hn : ∀ k, k < w.heap.size → v.ownBlock = some k → ¬ S k) : RdO w' v os := by
  obtain ⟨A, c, rfl, h1, h2⟩ := h
  refine ⟨A, c, rfl, h1, fun i o hi => ?_⟩
  obtain ⟨b, off, rfl, h3, h4⟩ := h2 i o hi
  have hn' := hn b (World.block_lt_of_cell? _ _ h3) rfl
  exact ⟨b, off, rfl, hk.cell h3 hn', hk.cell h4 hn'⟩

/-- the bits of a list of calls -/
def allBits (os : List (Int × Int)) : List Nat := os.flatMap fun o => putBits o.1 o.2
theorem allBits_bin (os : List (Int × Int)) : Bin (allBits os) := by
  intro x hx
  simp only [allBits, List.mem_flatMap] at hx
  obtain ⟨o, _, h⟩ := hx
  exact putBits_bin _ _ x h
theorem allBits_length (os : List (Int × Int)) : (allBits os).length ≤ 32 * os.length := by
  induction os with
  | nil => simp [allBits]
  | cons o r ih =>
    have := putBits_length o.1 o.2
    simp only [allBits, List.flatMap_cons, List.length_append, List.length_cons] at *
    omega
theorem allBits_take (os : List (Int × Int)) (k : Nat) (h : k < os.length) : allBits (os.take (k + 1)) = allBits (os.take k) ++ putBits os[k].1 os[k].2 := by
  rw [List.take_succ_eq_append_getElem h]
  unfold allBits
  rw [List.flatMap_append]
  simp

/-- what 'written' leaves -/
def Written (w : World) (S : Nat → Prop) (g : Nat) (os : List (Int × Int)) (e : Ending) (w' : World) : Prop :=
  ∃ v S', e = .returned (.tuple #[v, .bool true]) ∧ IsW w' S' g (allBits os) ∧ w'.ownsRow w.heap.size 5 1 v (allBits os).length (u8s (allBits os)) ∧ (∀ k, v.ownBlock = some k → ¬ S' k) ∧
    (∀ k, S' k → S k ∨ w.heap.size ≤ k) ∧ Keep S w w'

/-- behind one call that appends -/
theorem written_step {w wr w1 w2 w3 : World} {S S' S1 : Nat → Prop} {g : Nat} {L B : List Nat} {u6 v' : Value}
    (hW1 : IsW w1 S1 g (L ++ B)) (ho : wr.ownsRow w.heap.size 5 1 u6 L.length (u8s L)) (hoS : ∀ k, u6.ownBlock = some k → ¬ S' k) (hSS : ∀ k, S' k → S k ∨ w.heap.size ≤ k) (hK : Keep S w wr)
    (hK1 : Keep S' wr w1) (hS1 : ∀ k, S1 k → S' k ∨ wr.heap.size ≤ k) (hb2 : Below w1.heap.size w1 w2)
    (hown3 : w3.ownsRow 0 5 1 v' (L.length + (u8s B).length) (u8s L ++ u8s B)) (hgr3 : w2.grownBy w3 u6.ownBlock) (hblk3 : AppBlk w2 u6 v') :
    IsW w3 S1 g (L ++ B) ∧ w3.ownsRow w.heap.size 5 1 v' (L ++ B).length (u8s (L ++ B)) ∧ (∀ k, v'.ownBlock = some k → ¬ S1 k) ∧ (∀ k, S1 k → S k ∨ w.heap.size ≤ k) ∧ Keep S w w3 := by
  have hlt : ∀ k, S1 k → k < w1.heap.size := hW1.choose_spec.2.2.2.2.2
  have h6 : ∀ k, u6.ownBlock = some k → ¬ S1 k := by
    intro k hk hs
    rcases hS1 k hs with h | h
    · exact hoS k hk h
    · have := own_lt ho hk; omega
  have hsz1 := hK1.size
  have hsz2 := hb2.size
  have hsz0 := hK.size
  refine ⟨hW1.keep (T := fun k => u6.ownBlock = some k) ((Keep.of_belowS hb2 _).grown hgr3 (fun i hi => .inl hi)) (fun k hk h => h6 k h hk), ?_, ?_, ?_, ?_⟩
  · have e : u8s (L ++ B) = u8s L ++ u8s B := by simp [u8s]
    rw [e, List.length_append, ← u8s_length B]
    refine own_base hown3 ?_
    intro k hk
    rcases hblk3 with h | h
    · rw [h] at hk; exact (ho.lt k hk).1
    · rw [h] at hk; cases hk; omega
  · intro k hk hs
    rcases hblk3 with h | h
    · rw [h] at hk; exact h6 k hk hs
    · rw [h] at hk; cases hk
      have := hlt _ hs; omega
  · intro k hs
    rcases hS1 k hs with h | h
    · exact hSS k h
    · right; omega
  · refine ((hK.trans hK1 hSS).trans (Keep.of_below hb2) (fun i hf => hf.elim)).grown hgr3 ?_
    intro i hi
    exact .inr (ho.lt i hi).1

set_option maxHeartbeats 1000000 in
theorem written_walk (w : World) (S : Nat → Prop) (g : Nat) (v : Value) (os : List (Int × Int)) (h : IsW w S g []) (k : RdO w v os) (hd : ∀ k, v.ownBlock = some k → S k → os = []) (hl : os.length ≤ 200) :
    Calls Try.prog 10 #[.pointer (some ⟨g, 0, none⟩), v] w (Written w S g os) := by
  obtain ⟨i0, hi, hz0, hz1, hz2⟩ := info_parts info_u8
  obtain ⟨A, c, rfl, hr, hc⟩ := k
  have HC := Lib.hid hc; clear hc
  go_enter Try.func10, Try.ntmps10
  go_wp2
  go_loopw [6, 7] (fun s t wr => ∃ i : Nat, i ≤ os.length ∧ t = .int .i64 i ∧ ∃ S', IsW wr S' g (allBits (os.take i)) ∧ wr.ownsRow w.heap.size 5 1 s (allBits (os.take i)).length (u8s (allBits (os.take i))) ∧ (∀ k, s.ownBlock = some k → ¬ S' k) ∧
    (∀ k, S' k → S k ∨ w.heap.size ≤ k) ∧ Keep S w wr) (fun _ t _ => os.length - (intOf t).toNat)
  case atStart => exact ⟨0, Nat.zero_le _, rfl, S, h, World.ownsRow_nil _ _ _ _, by intro k hk; simp [Value.ownBlock] at hk, fun _ hk => .inl hk, Keep.refl _ _⟩
  case round =>
    obtain ⟨i, hin, rfl, S', hW, ho, hoS, hSS, hK⟩ := hrel
    by_cases hlt : i < os.length
    · obtain ⟨b, off, rfl, cv, cn⟩ := HC.out i os[i] (List.getElem?_eq_getElem hlt)
      have hb := World.block_lt_of_cell? _ _ cv
      have hbS : ¬ S b := fun hs => by rw [hd b rfl hs] at hlt; exact absurd hlt (Nat.not_lt_zero _)
      have hbS' : ¬ S' b := fun hs => by
        rcases hSS b hs with h | h
        · exact hbS h
        · have : b < w.heap.size := hb
          omega
      have cv' : wr.cell? ⟨b, off + i * 2, none⟩ = some (.int .u32 os[i].1) := hK.cell cv hbS
      have cn' : wr.cell? ⟨b, off + i * 2 + 1, none⟩ = some (.int .i64 os[i].2) := hK.cell cn hbS
      have hrv := hr os[i] (List.getElem_mem hlt)
      have hstep := allBits_take os i hlt
      have HS := Lib.hid hstep; clear hstep
      have hlen := allBits_length (os.take i)
      rw [List.length_take] at hlen
      generalize os[i].1 = V at *
      generalize os[i].2 = N at *
      generalize allBits (os.take i) = L at *
      have HR := Lib.hid hr; clear hr
      by_cases hm : mayOf V N = 0
      · have hmb : (mayOf V N == 0) = true := by simp [hm]
        have hpb : putBits V N = bitsOf V.toNat N.toNat := by unfold putBits; rw [if_pos hm]
        have hN := (mayOf_zero hm).1
        rw [hpb] at HS
        have HM := Lib.hid hm; clear hm
        have HPB := Lib.hid hpb; clear hpb
        go_wp2_with fail
        go_quiet ((go_at_call 25; exact quiet_same (may_walk _ _ _ hrv)))
        go_wp2_with fail
        go_region_with (go_at_call 19; refine (wPut_any _ S' g L V N (by exact hW) (by omega) hrv).mono ?_; rintro e w1 ⟨rfl, S1, hW1, hS1, hK1⟩)
        all_goals
          have cv1 : w1.cell? ⟨b, off + i * 2, none⟩ = some (.int .u32 V) := hK1.cell cv' hbS'
          have cn1 : w1.cell? ⟨b, off + i * 2 + 1, none⟩ = some (.int .i64 N) := hK1.cell cn' hbS'
          have hK1' := hK1.of_drewN
          have hS1' : ∀ k, S1 k → S' k ∨ wr.heap.size ≤ k := hS1
          clear hK1 hS1
          have ho1 : w1.ownsRow w.heap.size 5 1 u6 L.length (u8s L) := own_keep ho hK1' hoS
          rw [HPB.out] at hW1
          go_wp2_with fail
          go_region_law (first | (refine step_append_row _ rfl _ _ 25 rfl 5 i0 (.int .u8 0) 1 Try.underlying25 hi hz0 hz1 hz2 rfl u6 L.length (u8s L) rfl (by first | exact hoA | exact own_base ho1 (fun _ _ => Nat.zero_le _)) _ (u8s (bitsOf V.toNat N.toNat)) rfl (by exact hRd) (u8s_one _) (by rw [u8s_length, bitsOf_length]; unfold maxLen; omega) (by rw [u8s_length, bitsOf_length]; omega) ?_; intro v' w3 hown3 hgr3 hblk3) | (go_simp; go_at_call 26; refine (bits_walk _ V N hrv hN).mono ?_; rintro e w2 ⟨v2, rfl, ho2, hb2⟩; have hRd := Rd.own ho2; have hoA := own_keep (own_base ho1 (fun _ _ => Nat.zero_le _)) ((Keep.of_below hb2).of_drew) (fun _ _ h => h)))
          all_goals
            have fin := written_step hW1 ho hoS hSS hK hK1' hS1' (by exact ⟨hb2.os, hb2.tape, hb2.output, hb2.size, hb2.block⟩) hown3 hgr3 hblk3
            obtain ⟨M, hM⟩ : ∃ M, M = (L ++ bitsOf V.toNat N.toNat).length := ⟨_, rfl⟩
            have hq := wLen w3 S1 g _ fin.1
            have hsh := own_shape fin.2.1
            rw [← hM] at hq hsh
            clear hM
            obtain ⟨A3, c3, rfl, _⟩ := hsh
            have HQ := Lib.hid hq; clear hq
            rw [← HS.out] at fin
            have HF := Lib.hid fin; clear fin
            clear hown3 hgr3 hblk3 hb2 ho2 hRd hoA hS1' hK1' hW1 hW ho ho1 cv1 cn1 cv' cn' hoS hSS hK
            go_wp2_with fail
            refine HQ.out.mono ?_
            rintro e w4 ⟨rfl, rfl⟩
            go_wp2
            go_roundw
            case rel => exact ⟨i + 1, by omega, by go_num, S1, HF.out⟩
            case measure => simp [intOf] <;> omega
      · have hmb : (mayOf V N == 0) = false := by simp [hm]
        have hpb : putBits V N = [] := by unfold putBits; rw [if_neg hm]
        rw [hpb] at HS
        have HM := Lib.hid hm; clear hm
        have HPB := Lib.hid hpb; clear hpb
        go_wp2_with fail
        go_quiet ((go_at_call 25; exact quiet_same (may_walk _ _ _ hrv)))
        go_wp2_with fail
        go_region_with (go_at_call 19; refine (wPut_any _ S' g L V N (by exact hW) (by omega) hrv).mono ?_; rintro e w1 ⟨rfl, S1, hW1, hS1, hK1⟩)
        all_goals
          have hK1' := hK1.of_drewN
          have hS1' : ∀ k, S1 k → S' k ∨ wr.heap.size ≤ k := hS1
          rw [HPB.out] at hW1
          have fin := written_step (B := []) (v' := u6) hW1 ho hoS hSS hK hK1' hS1' (Below.refl _ _) (by simpa [u8s] using own_base (own_keep ho hK1' hoS) (fun _ _ => Nat.zero_le _)) ⟨rfl, rfl, rfl, Nat.le_refl _, fun _ _ _ => rfl⟩ (.inl rfl)
          obtain ⟨M, hM⟩ : ∃ M, M = (L ++ []).length := ⟨_, rfl⟩
          have hq := wLen w1 S1 g _ fin.1
          have hsh := own_shape fin.2.1
          rw [← hM] at hq hsh
          clear hM
          obtain ⟨A3, c3, rfl, _⟩ := hsh
          have HQ := Lib.hid hq; clear hq
          rw [← HS.out] at fin
          have HF := Lib.hid fin; clear fin
          clear hK1 hS1 hS1' hK1' hW1 hW ho cv' cn' hoS hSS hK
          go_wp2_with fail
          refine HQ.out.mono ?_
          rintro e w4 ⟨rfl, rfl⟩
          go_wp2
          go_roundw
          case rel => exact ⟨i + 1, by omega, by go_num, S1, HF.out⟩
          case measure => simp [intOf] <;> omega
    · obtain rfl : i = os.length := by omega
      rw [List.take_length] at hW ho
      go_wp2
      go_ret2
      exact ⟨_, S', rfl, hW, ho, hoS, hSS, hK⟩
end Go.Proofs.Ytalpogmfoihokaa
