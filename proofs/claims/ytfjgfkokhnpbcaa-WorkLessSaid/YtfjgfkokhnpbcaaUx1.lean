-- Laid by a program of this session (wip/gprint.py) over the kit's print of the translation; Lean checks it.
import Derived.Test.YtfjgfkokhnpbcaaGq
import Derived.Test.YtfjgfkokhnpbcaaUx0
namespace Go.Proofs.Ytfjgfkokhnpbcaa.U
open Go.RowKit Go.Proofs.YtfjgfkokhnpbcaaW.PrintWords Go.Proofs.YtfjgfkokhnpbcaaW.PrintLast Go.Proofs.YtfjgfkokhnpbcaaG.Eq Go.Proofs.YtfjgfkokhnpbcaaW.PrintMore
attribute [local go_sem] max2_int min2_int max_two min_two max_three min_three max_four min_four   -- for this text's walks alone
set_option linter.unusedVariables false
set_option linter.unusedSimpArgs false

theorem eqA30 (d : Nat) (w : World) (x0 y0 : Int) (x1 y1 : Int) :
    (Op.equalIn (d + 2) 30 (.agg #[.int .i64 x0, .int .i64 x1]) (.agg #[.int .i64 y0, .int .i64 y1])).run Try.prog w = .ok (x0 == y0 && (x1 == y1)) w := by
  rw [run_equalIn_array w (d + 1) _ _ Try.underlying30 (show Try.prog.info? 3 = some Try.t3 by kernel_rfl)]
  refine eqi_cons (by go_simp; rfl) (by go_simp; rfl) (by go_simp) ?_
  exact eqi_last (by go_simp; rfl) (by go_simp; rfl) (by go_simp)
end Go.Proofs.Ytfjgfkokhnpbcaa.U
