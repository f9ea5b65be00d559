/- Small words beside the print's: gates of the walk; rows of plain cells told by their block alone. -/
import Derived.Test.YtgbickkmfjngbaaWWords
namespace Go.Proofs.YtgbickkmfjngbaaG.Words
open Go.RowKit Go.Proofs.YtgbickkmfjngbaaW.PrintWords Go.Proofs.YtgbickkmfjngbaaW.PrintWords.Kd
section
variable {P : Program} {ops : Array Oper} {rest : List Oper} {o : Oper} {a : Act} {Q : Exit → Act → World → Prop} {W : World}
/-- The operation stands there as a call of f: looked at ahead of the step. -/
theorem gate_callee {f : FuncId} {as : Array Operand} {ts : Array TypeId} (_h : o.op = .call { callee := .value (.func f), args := as, argTypes := ts }) (k : wpList P ops Q (o :: rest) a W) : wpList P ops Q (o :: rest) a W := k
theorem gate_builtin {b : Builtin} {xs : Array Operand} {ts : Array TypeId} (_h : o.op = .call { callee := .builtin b, args := xs, argTypes := ts }) (k : wpList P ops Q (o :: rest) a W) : wpList P ops Q (o :: rest) a W := k
end
theorem calls_of_args {P : Program} {f : FuncId} {xs ys : Array Value} {w : World} {Q : Ending → World → Prop} (h : xs = ys) (k : Calls P f ys w Q) : Calls P f xs w Q := by rw [h]; exact k
namespace Kd
variable {α : Type} {d : Kd α} {e base : Nat} {ok ok1 : Nat → Prop} {W W' : World} {v : Value} {xs : List α}
theorem R_reok (hE : d.E = []) (h : d.R e W base ok1 v xs) (hok : ∀ k, v.ownBlock = some k → ok k) : d.R e W base ok v xs :=
  ⟨hok, h.2.imp_ fun p c hp => d.M_mono (fun k hk => by
    obtain ⟨_, _, _, q, hq, _⟩ := hk
    rw [hE] at hq
    cases hq) (d.M_bound hp)⟩
theorem R_grown2 (h : d.R e W base ok v xs) (hE : d.E = []) {row : Option Nat} (hg : W.grownBy W' row) (hne : ∀ k, row = some k → some k ≠ v.ownBlock) : d.R e W' base ok v xs :=
  R_mono (R_grown (R_reok hE h (ok := fun k => some k = v.ownBlock) (fun _ hk => hk.symm)) hg (fun k hk e => hne k e.symm hk)) (fun k hk => h.1 k hk.symm)
end Kd
end Go.Proofs.YtgbickkmfjngbaaG.Words
