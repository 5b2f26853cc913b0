/- The walks of slices.Clone and of the writer's Payload. -/
import Derived.Test.YtmimljaniliecaaPut
namespace Go.Proofs.Ytmimljaniliecaa
open Go.RowKit Bt

theorem u8s_one (l : List Nat) : ∀ u ∈ u8s l, u.oneCell' = true := by
  intro u hu
  simp only [u8s, List.mem_map] at hu
  obtain ⟨x, _, rfl⟩ := hu
  rfl

/-- a row of the call's own, with the cells xs -/
def Fresh (w : World) (m : Nat) (xs : List Value) (e : Ending) (w' : World) : Prop :=
  ∃ v, e = .returned v ∧ w'.ownsRow w.heap.size 5 1 v m xs ∧ Below w.heap.size w w'

theorem clone_nil (w : World) : Calls Try.prog 57 #[.slice none 0 0] w fun e w' => e = .returned (.slice none 0 0) ∧ w = w' := by
  have ke := fun w => Lib.run_eql_slice_nil (P := Try.prog) w 22 5 none 0 0 0 0 Try.underlying22
  go_enter Try.func57, Try.ntmps57
  go_wp2
  go_ret
  exact ⟨rfl, rfl⟩

set_option maxHeartbeats 400000 in
theorem clone (w : World) (a : Addr) (m c : Nat) (xs : List Value) (hl : xs.length = m * 1) (hc : ∀ j u, xs[j]? = some u → w.cell? (a.add j) = some u) (h1 : ∀ u ∈ xs, u.oneCell' = true) (hm : m ≤ 1000000000000) :
    Calls Try.prog 57 #[.slice (some a) m c] w (Fresh w m xs) := by
  obtain ⟨i0, hi, hz0, hz1, hz2⟩ := info_parts info_u8
  have ke := fun w => Lib.run_eql_slice_nil (P := Try.prog) w 22 5 (some a) m c 0 0 Try.underlying22
  go_enter Try.func57, Try.ntmps57
  go_wp2_with (at_builtin; refine wpList_append_mine _ rfl _ _ 22 rfl 5 i0 (.int .u8 0) 1 1 Try.underlying22 hi hz0 hz1 hz2 rfl (by decide) (.slice (some ⟨w.heap.size, 0, none⟩) 0 0) 0 [] rfl ?h1 a m c xs rfl hl ?h2 h1 ?h4 ?h5 ?h6)
  case h1 => exact World.ownsRow_made _ _ _ (Nat.zero_le _) (by unfold maxLen; omega) rfl
  case h2 => intro j u hj; exact ((Keep.refl (fun _ => False) w).alloc _).cell (hc j u hj) (fun h => h)
  case h4 => unfold maxLen; omega
  case h5 => omega
  case h6 =>
    intro v' w1 hown hgr hblk hsh
    go_wp2
    go_ret
    refine ⟨v', rfl, ?_, ?_⟩
    · refine own_base (by simpa using hown) ?_
      intro k hk
      rcases hblk with h | h <;> (rw [h] at hk; simp [Value.ownBlock] at hk; omega)
    · exact ((Below.refl _ _).alloc (Nat.le_refl _) _).grown hgr (by simp) (by intro k hk; simp [Value.ownBlock] at hk; omega)

/-- Clone of an owned row. -/
theorem cloneOwn {w : World} {base m : Nat} {v : Value} {xs : List Nat} (h : w.ownsRow base 5 1 v m (u8s xs)) (hm : m ≤ 1000000000000) : Calls Try.prog 57 #[v] w (Fresh w m (u8s xs)) := by
  rcases h.2 with ⟨rfl, rfl⟩ | ⟨g, cap, cur, rfl, _⟩
  · refine (clone_nil w).mono fun e w' ⟨he, hw⟩ => ⟨_, he, ?_, by subst hw; exact Below.refl _ _⟩
    have : u8s xs = [] := List.eq_nil_of_length_eq_zero (by simpa using h.1)
    rw [this]; exact World.ownsRow_nil _ _ _ _
  · exact clone w _ m cap _ h.1 (h.cells rfl) (u8s_one xs) hm

set_option maxHeartbeats 400000 in
theorem wPay (w : World) (S : Nat → Prop) (g : Nat) (l : List Nat) (h : IsW w S g l) (hl : l.length ≤ 1000000000) :
    Calls Try.prog 47 #[.pointer (some ⟨g, 0, none⟩)] w (Fresh w (payload l).length (u8s (payload l))) := by
  obtain ⟨i0, hi, hz0, hz1, hz2⟩ := info_parts info_u8
  obtain ⟨v, h1, h2, h3, _⟩ := h
  have c1 : w.cell? ⟨g, 1, none⟩ = some (.int .i64 l.length) := cell_of_row _ _ _ _ _ _ h1
  have c0 : w.cell? ⟨g, 0, none⟩ = some v := cell_of_row _ _ _ _ _ _ h1
  go_enter Try.func47, Try.ntmps47
  by_cases h8 : l.length % 8 = 0
  · have h8b : ((l.length : Int) % 8 == 0) = true := by simp; omega
    go_wp2_with fail
    refine (cloneOwn h2 (by rw [packed_length]; omega)).mono ?_
    rintro e w' ⟨v1, rfl, ho, hb⟩
    go_wp2_with (at_builtin; refine wpList_append_mine _ rfl _ _ 22 rfl 5 i0 (.int .u8 0) 1 1 Try.underlying22 hi hz0 hz1 hz2 rfl (by decide) v1 (packed l).length (u8s (packed l)) rfl ?h1 ⟨w'.heap.size, 0, none⟩ 1 1 [.int .u8 128] rfl rfl ?h2 ?h3 ?h4 ?h5 ?h6)
    case h1 => exact own_keep (own_base ho (fun _ _ => Nat.zero_le _)) ((Keep.refl (fun _ => False) _).alloc _) (fun _ _ h => h)
    case h2 => exact one_new
    case h3 => intro u hu; simp at hu; subst hu; rfl
    case h4 => rw [packed_length]; unfold maxLen; omega
    case h5 => rw [packed_length]; omega
    case h6 =>
      intro v' w1 hown hgr hblk hsh
      go_wp2
      go_ret
      refine ⟨v', rfl, ?_, ?_⟩
      · refine own_base (base := 0) ?_ ?_
        · rw [payload, packed_snoc_new l 1 h8]
          simpa [u8s] using hown
        · intro k hk
          rcases hblk with h | h
          · rw [h] at hk; exact (ho.lt k hk).1
          · rw [h] at hk; simp at hk; have := hb.size; omega
      · exact (hb.alloc hb.size _).grown hgr (by have := hb.size; simp; omega) (fun k hk => (ho.lt k hk).1)
  · have h8b : ((l.length : Int) % 8 == 0) = false := by simp; omega
    go_wp2_with fail
    refine (cloneOwn h2 (by rw [packed_length]; omega)).mono ?_
    rintro e w' ⟨v1, rfl, ho, hb⟩
    obtain ⟨m, hm⟩ : ∃ m, m = (packed l).length := ⟨_, rfl⟩
    have hm8 : m = (l.length + 7) / 8 := by rw [hm, packed_length]
    rw [← hm] at ho
    obtain ⟨gb, cap, cur, rfl, hgb, hcap, hcm, hcs, htake⟩ : ∃ gb cap cur, v1 = .slice (some ⟨gb, 0, none⟩) m cap ∧ w'.heap[gb]? = some (.cells cur 5 (0, 0)) ∧ m ≤ cap ∧ cap ≤ maxLen ∧ cur.size = cap * 1 ∧ cur.toList.take (m * 1) = u8s (packed l) := by
      rcases ho.2 with ⟨_, h0⟩ | ⟨gb, cap, cur, h1, _, h2, h3, h4, h5, h6⟩
      · omega
      · exact ⟨gb, cap, cur, h1, h2, h3, h4, h5, h6⟩
    have cx : w'.cell? ⟨gb, m - 1, none⟩ = some (.int .u8 (byteAt l (m - 1) : Nat)) := by
      rw [cell_of_row _ _ _ _ _ _ hgb]
      exact row_at htake (by rw [packed_length]; omega) (by omega)
    have fx : w'.frozen? ⟨gb, m - 1, none⟩ = false := frozen_of_row hgb _
    have c1' : w'.cell? ⟨g, 1, none⟩ = some (.int .i64 l.length) := (hb.cell (p := ⟨g, 1, none⟩) (heap_lt h1)).trans c1
    have hm1 : 1 ≤ m := by omega
    have hmb : m ≤ 1000000000 := by omega
    have HM8 := Lib.hid hm8; clear hm8
    have HM := Lib.hid hm; clear hm
    have hgB : w.heap.size ≤ gb := (ho.lt gb rfl).1
    obtain ⟨N, hN⟩ : ∃ N, N = l.length := ⟨_, rfl⟩
    obtain ⟨x, hx⟩ : ∃ x, x = byteAt l (m - 1) := ⟨_, rfl⟩
    rw [← hN] at c1' h8b hl
    rw [← hx] at cx
    have HN := Lib.hid hN; clear hN
    have HX := Lib.hid hx; clear hx
    have HB := Lib.hid hb; clear hb
    have hcap' : (packed l).length ≤ cap := by have := HM.out; omega
    clear h1 h2 ho hcap c0 c1
    go_wp2_with fail
    go_region
    go_wp2
    go_ret
    have hmN : m - 1 = l.length / 8 := by have := HM8.out; omega
    have hxl := byteAt_lt h3 (m - 1)
    have hlow := byteAt_low l
    rw [HN.out, or_one x (l.length % 8) (by rw [HX.out]; exact hxl) (Nat.mod_lt _ (by decide)) (by rw [HX.out, hmN]; exact hlow)]
    have hp : payload l = (packed l).set (m - 1) (x + 2 ^ (7 - l.length % 8)) := by
      rw [payload, packed_snoc_open l 1 h8, HX.out, hmN, Nat.one_mul]
    have hpl := HM.out
    refine ⟨.slice (some ⟨gb, 0, none⟩) m cap, rfl, ⟨?_, .inr ⟨gb, cap, cur.setIfInBounds (m - 1) _, ?_, hgB, setCell_heap_at hgb _, by rw [hp, List.length_set]; exact hcap', hcm, ?_, ?_⟩⟩, ?_⟩
    · simp [u8s_length]
    · rw [hp, List.length_set, ← hpl]
    · simp [hcs]
    · rw [hp, List.length_set, ← hpl, Array.toList_setIfInBounds, u8s_set, ← htake, List.take_set]
    · exact (HB.out.setCell hgB _).drew
end Go.Proofs.Ytmimljaniliecaa
