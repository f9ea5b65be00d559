/- SideTells, plainly. -/
import Derived.Test.YtgbickkmfjngbaaPr
import Derived.Test.YtgbickkmfjngbaaKx15
namespace Go.Proofs.Ytgbickkmfjngbaa.K
open Go.RowKit Go.Proofs.YtgbickkmfjngbaaW.PrintWords Go.Proofs.YtgbickkmfjngbaaW.PrintLast Go.Proofs.YtgbickkmfjngbaaG.Words
set_option linter.unusedVariables false
set_option linter.unusedSimpArgs false

theorem SideTells_true (l : List S52) (e : List S38) (a : Int) (hl : l.length ≤ 9223372036854775807 ∧ ∀ x ∈ l, x.f1.size ≤ 9223372036854775807) (he : e.length ≤ 9223372036854775807) (hw : (Lit.int .u8 a).wf = true) : ∃ k, tammylaw08_SideTells.f k l e a = some true := by
  refine Ev.rounds (g := fun k => tammylaw08_SideTells.f k l e a) ?_
  unfold tammylaw08_SideTells.f
  refine Ev.bind shown_is ?_
  obtain ⟨b, eb, hb⟩ := of_all hl.1 hl.2 he
  refine Ev.bind eb ?_
  by_cases h : b = true
  case neg => exact Ev.neg h (Ev.now _)
  obtain ⟨F, hl64⟩ := hb h
  have hv := vars_len e []
  have hn := F.len
  simp only [List.length_nil, Nat.add_zero] at hv
  exact Ev.pos h (Ev.bind (side_Check_is hl64 F a) (Ev.bind (refCheck_is hl64 F a) (Ev.pos rfl (Ev.pure (side_Of_is hl64 F a) (Ev.bind (refOf_is hl64 F a) (Ev.pos rfl (Ev.pos rfl (Ev.pos rfl
    (Ev.bind (sideVars_is F.len) (Ev.bind (refVars_is F.len) (Ev.bind (Texts_is _ (by omega)) (Ev.now _))))))))))))
end Go.Proofs.Ytgbickkmfjngbaa.K
