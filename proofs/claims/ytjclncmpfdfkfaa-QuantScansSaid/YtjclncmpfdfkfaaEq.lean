/- Arrays of 64 equal numbers compare as equal. -/
import Derived.Test.YtjclncmpfdfkfaaSt
import Derived.Laws.StructEq
namespace Go.Proofs.Ytjclncmpfdfkfaa
open Go.RowKit Go.Great

theorem part_iv {P : Program} {w : World} {e : TypeId} (l : List Int) (ha : (isAgg e).run P w = .ok false w) (n : Nat) (hl : n < l.length) : (part e (iv l) n).run P w = .ok (.int .i64 (l.getD n 0)) w := by
  simp [part, ha, iv_get _ _ hl]

theorem equal_same (w : World) (l : List Int) (hl : l.length = 64) : (Op.equalIn 10000 30 (.agg (iv l)) (.agg (iv l))).run Try.prog w = .ok true w := by
  show (Op.equalIn (9999 + 1) 30 (.agg (iv l)) (.agg (iv l))).run Try.prog w = .ok true w
  unfold Op.equalIn
  have hu : Try.prog.underlying 30 = some (.array 64 3) := rfl
  simp only [Sem.run_bind, run_underlying hu, Result.andThen_ok]
  have hs : (sizeOf 3).run Try.prog w = .ok 1 w := rfl
  simp only [hs, Result.andThen_ok]
  simp only [Std.Legacy.Range.forIn_eq_forIn_range', Std.Legacy.Range.size, Nat.sub_zero, Nat.add_one_sub_one, Nat.div_one]
  have key : ∀ n s, s + n ≤ 64 → (forIn (List.range' s n) ((none : Option Bool), ()) fun i _ => do
      let a ← part 3 (iv l) (i * 1)
      let b ← part 3 (iv l) (i * 1)
      let c ← Op.equalIn 9999 3 a b
      if (!c) = true then pure (ForInStep.done (some false, ())) else pure (ForInStep.yield (none, ()))).run Try.prog w = .ok (none, ()) w := by
    intro n
    induction n with
    | zero => intro s _; rfl
    | succ n ih =>
      intro s hs2
      have hp := part_iv (P := Try.prog) (w := w) (e := 3) l rfl (s * 1) (by omega)
      have he := run_equalIn_int (P := Try.prog) w 9998 3 .i64 .i64 (l.getD (s * 1) 0) (l.getD (s * 1) 0) rfl
      simp only [List.range'_succ, List.forIn_cons, Sem.run_bind, hp, Result.andThen_ok]
      rw [show (9998 + 1) = 9999 from rfl] at he
      simp only [he, Result.andThen_ok, beq_self_eq_true, Bool.not_true, Bool.false_eq_true, if_false, Sem.run_pure]
      exact ih (s + 1) (by omega)
  have k := key 64 0 (by omega)
  refine Eq.trans (congrArg (fun r => Result.andThen r _) (a₂ := Result.ok (none, ()) w) ?_) ?_
  · exact k
  · rfl

/-- equal arrays compare as equal -/
theorem eql_same (w : World) (l : List Int) (hl : l.length = 64) : (binOp .eql 30 (.agg (iv l)) (.agg (iv l))).run Try.prog w = .ok (.bool true) w := by
  rw [run_eql_struct, equal_same w l hl]
  rfl
end Go.Proofs.Ytjclncmpfdfkfaa
