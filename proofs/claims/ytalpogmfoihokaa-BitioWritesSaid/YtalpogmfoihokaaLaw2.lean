/- The walk of written2. -/
import Derived.Test.YtalpogmfoihokaaLaw
namespace Go.Proofs.Ytalpogmfoihokaa
open Go.RowKit Bt

/-- what 'written2' leaves -/
def Written2 (w : World) (S : Nat → Prop) (g : Nat) (l B : List Nat) (e : Ending) (w' : World) : Prop :=
  ∃ v S', e = .returned (.tuple #[v, .bool true]) ∧ IsW w' S' g (l ++ B) ∧ w'.ownsRow w.heap.size 5 1 v B.length (u8s B) ∧ (∀ k, v.ownBlock = some k → ¬ S' k) ∧
    (∀ k, S' k → S k ∨ w.heap.size ≤ k) ∧ Keep S w w'

theorem written2_fin {w w2 w3 : World} {S S1 : Nat → Prop} {g : Nat} {l B C : List Nat} {v2 : Value} {n : Nat} {o : Obj} (h : IsW w S g l) (hW1 : IsW w2 S1 g (l ++ B)) (hS1 : ∀ k, S1 k → S k ∨ (w.alloc o).heap.size ≤ k) (hK1 : Keep S (w.alloc o) w2)
    (hC : C = B) (ho2 : w3.ownsRow w2.heap.size 5 1 v2 n (u8s B)) (hb2 : Below w2.heap.size w2 w3) :
    Written2 w S g l C (.returned (.tuple #[v2, .bool true])) w3 := by
  subst hC
  have hn : n = C.length := by have := own_len ho2; rw [u8s_length] at this; exact this.symm
  subst hn
  have hlt : ∀ k, S1 k → k < w2.heap.size := hW1.choose_spec.2.2.2.2.2
  have hsz := hK1.size
  simp at hsz
  refine ⟨v2, S1, rfl, hW1.keep (Keep.of_below hb2) (fun _ _ h => h), own_base ho2 ?_, ?_, ?_, ?_⟩
  · intro k hk; have := (ho2.lt k hk).1; omega
  · intro k hk hs; have := (ho2.lt k hk).1; have := hlt k hs; omega
  · intro k hs
    rcases hS1 k hs with h | h
    · exact .inl h
    · right; simp at h; omega
  · exact (((Keep.refl S w).alloc o).trans hK1 (fun _ h => .inl h)).then_below hb2

set_option maxHeartbeats 1000000 in
theorem written2_walk (w : World) (S : Nat → Prop) (g : Nat) (l : List Nat) (V N : Int) (n : Int) (h : IsW w S g l) (hl : l.length ≤ 1000000) (hn : n = l.length) (hrv : 0 ≤ V ∧ V < 4294967296) :
    Calls Try.prog 14 #[.pointer (some ⟨g, 0, none⟩), .agg #[.int .u32 V, .int .i64 N], .int .i64 n] w (Written2 w S g l (putBits V N)) := by
  have hnb : 0 ≤ n ∧ n ≤ 1000000 := by omega
  have HNN := Lib.hid hn; clear hn
  by_cases hm : mayOf V N = 0
  · have hmb : (mayOf V N == 0) = true := by simp [hm]
    have hmb' : (mayOf V N != 0) = false := by simp [hm]
    have hpb : putBits V N = bitsOf V.toNat N.toNat := by unfold putBits; rw [if_pos hm]
    have hN := (mayOf_zero hm).1
    have HM := Lib.hid hm; clear hm
    have HPB := Lib.hid hpb; clear hpb
    go_enter Try.func14, Try.ntmps14
    go_wp2_with fail
    refine (may_walk _ V N hrv).mono ?_
    rintro e w1 ⟨rfl, rfl⟩
    go_wp2_with fail
    refine (wPut_any _ S g l V N (by exact h.keep (((Keep.refl (fun _ => False) _).alloc _)) (fun _ _ h => h)) (by omega) hrv).mono ?_
    rintro e w2 ⟨rfl, S1, hW1, hS1, hK1⟩
    rw [HPB.out] at hW1
    have cV : w2.cell? ⟨w.heap.size, 0, none⟩ = some (.int .u32 V) := hK1.cell (cell_of_row _ _ _ _ _ _ (heap_alloc_new w _)) (by intro hs; have := h.choose_spec.2.2.2.2.2 _ hs; exact absurd this (Nat.lt_irrefl _))
    have cN : w2.cell? ⟨w.heap.size, 1, none⟩ = some (.int .i64 N) := hK1.cell (cell_of_row _ _ _ _ _ _ (heap_alloc_new w _)) (by intro hs; have := h.choose_spec.2.2.2.2.2 _ hs; exact absurd this (Nat.lt_irrefl _))
    obtain ⟨M, hM⟩ : ∃ M, M = (l ++ bitsOf V.toNat N.toNat).length := ⟨_, rfl⟩
    have heq : ((M : Int) == n + N) = true := by
      have := HNN.out
      rw [hM, this]; simp [bitsOf_length]; omega
    have hq : ∀ w3, IsW w3 S1 g (l ++ bitsOf V.toNat N.toNat) → Calls Try.prog 20 #[.pointer (some ⟨g, 0, none⟩)] w3 fun e w' => e = .returned (.int .i64 M) ∧ w3 = w' := by
      intro w3 h3; rw [hM]; exact wLen w3 S1 g _ h3
    clear hM
    have HQ := Lib.hid hq; clear hq
    have hwr : IntKind.i64.wrap (n + N) = n + N := by rw [IntKind.wrap_i64]; omega
    go_wp2_with fail
    go_region_with (first | (go_at_call 26; refine (bits_walk _ V N hrv hN).mono ?_; rintro e w3 ⟨v2, rfl, ho2, hb2⟩; have hW3 : IsW w3 S1 g (l ++ bitsOf V.toNat N.toNat) := hW1.keep ((Keep.of_below hb2).of_drew) (fun _ _ h => h); have cN3 : w3.cell? ⟨w.heap.size, 1, none⟩ = some (.int .i64 N) := (Keep.of_below hb2).of_drew.cell cN (fun h => h)) | (go_at_call 20; refine (HQ.out _ (by first | exact hW3 | exact hW1)).mono ?_; rintro e w4 ⟨rfl, rfl⟩))
    all_goals
      go_wp2
      go_ret2
      exact written2_fin h hW1 hS1 hK1 HPB.out ho2 (by exact ⟨hb2.os, hb2.tape, hb2.output, hb2.size, hb2.block⟩)
  · have hmb : (mayOf V N == 0) = false := by simp [hm]
    have hmb' : (mayOf V N != 0) = true := by simp [hm]
    have hpb : putBits V N = [] := by unfold putBits; rw [if_neg hm]
    have HM := Lib.hid hm; clear hm
    have HPB := Lib.hid hpb; clear hpb
    go_enter Try.func14, Try.ntmps14
    go_wp2_with fail
    refine (may_walk _ V N hrv).mono ?_
    rintro e w1 ⟨rfl, rfl⟩
    go_wp2_with fail
    refine (wPut_any _ S g l V N (by exact h.keep (((Keep.refl (fun _ => False) _).alloc _)) (fun _ _ h => h)) (by omega) hrv).mono ?_
    rintro e w2 ⟨rfl, S1, hW1, hS1, hK1⟩
    rw [HPB.out] at hW1
    obtain ⟨M, hM⟩ : ∃ M, M = (l ++ []).length := ⟨_, rfl⟩
    have heq : ((M : Int) == n) = true := by
      have := HNN.out
      rw [hM, this]; simp
    have hq : ∀ w3, IsW w3 S1 g (l ++ []) → Calls Try.prog 20 #[.pointer (some ⟨g, 0, none⟩)] w3 fun e w' => e = .returned (.int .i64 M) ∧ w3 = w' := by
      intro w3 h3; rw [hM]; exact wLen w3 S1 g _ h3
    clear hM
    have HQ := Lib.hid hq; clear hq
    go_wp2_with fail
    refine (HQ.out _ (by exact hW1)).mono ?_
    rintro e w4 ⟨rfl, rfl⟩
    go_wp2
    go_ret2
    refine ⟨_, S1, rfl, ?_, ?_, ?_, ?_, ?_⟩
    · rw [HPB.out]; exact hW1
    · rw [HPB.out]; exact World.ownsRow_nil _ _ _ _
    · intro k hk; simp [Value.ownBlock] at hk
    · intro k hs
      rcases hS1 k hs with h | h
      · exact .inl h
      · right; simp at h; omega
    · exact ((Keep.refl S w).alloc _).trans hK1 (fun _ h => .inl h)
end Go.Proofs.Ytalpogmfoihokaa
