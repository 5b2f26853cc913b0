/- A scope with a goto ahead. -/
import Derived.Test.YtmimljaniliecaaPo
import Derived.Test.YtmimljaniliecaaMg
import Derived.ScopeJumps
namespace Go.Proofs.Ytmimljaniliecaa
open Go.RowKit Bt
section
variable {P : Program} {Q : Exit → Act → World → Prop} {a : Act} {w : World} {K : Act → World → Prop}
theorem wp_scope_fwd {c rest : Code} (l : Nat) (hf : findLabel c l = some rest) (h : c.wp P (Exit.jump l (fun a w => rest.wp P (Exit.noGoto Q) a w) Q) a w) : (Code.scope c).wp P Q a w :=
  wp_scope_jumps l (fun a w => rest.wp P (Exit.noGoto Q) a w) (fun _ _ => 0) hf h (fun a w hJ => Go.wp_mono hJ (fun e a' w' he => by
    cases e with
    | goto l' => exact absurd he (fun h => h)
    | _ => exact he))
theorem th_goto {i : Nat} (h : Q (.goto i) a w) : Exit.then K Q (.goto i) a w := h
theorem sc_goto {l : Nat} {J : Act → World → Prop} (h : J a w) : Exit.jump l J Q (.goto l) a w := ⟨rfl, h⟩
theorem sc_ret {l : Nat} {J : Act → World → Prop} (h : Q .ret a w) : Exit.jump l J Q .ret a w := h
theorem sc_normal {l : Nat} {J : Act → World → Prop} (h : Q .normal a w) : Exit.jump l J Q .normal a w := h
theorem ng_ret (h : Q .ret a w) : Exit.noGoto Q .ret a w := h
theorem ng_normal (h : Q .normal a w) : Exit.noGoto Q .normal a w := h
end
/-- the block at the beginning of bytes, if it is whole -/
def whB (l : List Nat) (ch n : Nat) : Prop := bsz (ch : Int) ≤ ((l.length : Nat) : Int) ∧ tbE (sl l 0 ((bsz (ch : Int)).toNat - 0)) = 0 ∧ (tbL (sl l 0 ((bsz (ch : Int)).toNat - 0))).length = ch ∧ ((tbL (sl l 0 ((bsz (ch : Int)).toNat - 0))).getD 0 []).length = n
instance (l : List Nat) (ch n : Nat) : Decidable (whB l ch n) := by unfold whB; infer_instance
def whL (l : List Nat) (ch n : Nat) : List (List Int) := if whB l ch n then tbL (sl l 0 ((bsz (ch : Int)).toNat - 0)) else []
theorem wh_t {l : List Nat} {ch n : Nat} (h : whB l ch n) : whL l ch n = tbL (sl l 0 ((bsz (ch : Int)).toNat - 0)) := if_pos h
theorem wh_f {l : List Nat} {ch n : Nat} (h : ¬ whB l ch n) : whL l ch n = [] := if_neg h
end Go.Proofs.Ytmimljaniliecaa
