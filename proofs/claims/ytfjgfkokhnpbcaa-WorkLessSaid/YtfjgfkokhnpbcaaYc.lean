/- work.Less in the print's form. -/
import Derived.Test.YtfjgfkokhnpbcaaHz
import Derived.Test.YtfjgfkokhnpbcaaUx0
namespace Go.Proofs.Ytfjgfkokhnpbcaa.U
open Go.RowKit Go.Proofs.YtfjgfkokhnpbcaaW.PrintWords Go.Proofs.YtfjgfkokhnpbcaaW.PrintLast Go.Proofs.YtfjgfkokhnpbcaaW.PrintMore
set_option linter.unusedVariables false
def work_Less.f (a0_0 a0_1 a1_0 a1_1 : Int) : Option Bool := some (less2 ⟨a0_0, a0_1⟩ ⟨a1_0, a1_1⟩)
theorem work_Less.calls (a0_0 a0_1 a1_0 a1_1 : Int) (r : Bool) (w : World) (h : work_Less.f a0_0 a0_1 a1_0 a1_1 = some r) :
    Calls Try.prog 13 #[.agg #[.int .i64 a0_0, .int .i64 a0_1], .agg #[.int .i64 a1_0, .int .i64 a1_1]] w fun e w' => e = .returned (.bool r) ∧ Below w.heap.size w w' :=
  Less13r a0_0 a0_1 a1_0 a1_1 r w (Option.some.inj h)
end Go.Proofs.Ytfjgfkokhnpbcaa.U
