/- A region that draws its order and only reads, in a round of a range over a function. -/
import Derived.Deep.QuietTactic
import Derived.Test.YtfjgfkokhnpbcaaGr
namespace Go.Proofs.YtfjgfkokhnpbcaaR
open Go.RowKit
set_option linter.unusedVariables false
theorem quiet_round {P : Program} {l n : Nat} {id : Nat} {Q : Exit → Act → World → Prop} {a : Act} {w : World} {ops : List Oper} (hm : P.follows .mixedOrders = true) (hB : Region.lexB .any ops.toArray = true) (hd : noDefer ops = true) (hno : ¬ LetsOut Q)
    (h : wpQuiet P ops.toArray (fun w' => ∃ n, w' = w.drewN n) (fun a' => ∀ w', (∃ n, w' = w.drewN n) → Q .normal a' w') ops a) : (Code.region id ops.toArray true).wpIn (Fence.wide.inRound l) n P Q a w := by
  simp only [Region.lexB, Bool.and_eq_true] at hB
  refine wpIn_region_any hm (any_round (noDefer_spec hd) hno _ _ _ _ ?_)
  refine wpAny_of_quiet (C := fun w' => ∃ n, w' = w.drewN n) (Q := fun a' => ∀ w', (∃ n, w' = w.drewN n) → Q .normal a' w') (fun _ w' hw' h => h w' hw') _ _ _ _ ⟨1, rfl⟩ ?_
  have := wpAnyQ_lex (C := fun w' => ∃ n, w' = w.drewN n) (md := .any) hB.1 ops 0 (Array.replicate ops.toArray.size false) a (by simp) (by simpa using hB.2) h
  simpa using this
end Go.Proofs.YtfjgfkokhnpbcaaR
