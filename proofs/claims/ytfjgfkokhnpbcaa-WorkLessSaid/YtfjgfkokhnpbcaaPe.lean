/- Plainly: WorkLess. -/
import Derived.Test.YtfjgfkokhnpbcaaPd
import Derived.Test.YtfjgfkokhnpbcaaYc
import Derived.Test.YtfjgfkokhnpbcaaUx12
namespace Go.Proofs.Ytfjgfkokhnpbcaa.U
open Go.RowKit Go.Proofs.YtfjgfkokhnpbcaaW.PrintWords Go.Proofs.YtfjgfkokhnpbcaaW.PrintLast Go.Proofs.YtfjgfkokhnpbcaaW.PrintMore
set_option linter.unusedVariables false
set_option linter.unusedSimpArgs false
theorem less2_iff (p q : S30) : less2 p q = true ↔ p.f0 < q.f0 ∨ p.f0 = q.f0 ∧ p.f1 < q.f1 := by simp [less2]
theorem less2_self (p : S30) : less2 p p = false := by
  rw [Bool.eq_false_iff, Ne, less2_iff]
  rintro (h | h) <;> omega
theorem less2_trans {p q r : S30} (h1 : less2 p q = true) (h2 : less2 q r = true) : less2 p r = true := by
  rw [less2_iff] at *
  omega
theorem less2_asymm {p q : S30} (h : less2 p q = true) : less2 q p = false := by
  rw [Bool.eq_false_iff, Ne]
  rw [less2_iff] at *
  omega
theorem less2_total {p q : S30} (h : ¬ (p.f0 = q.f0 ∧ p.f1 = q.f1)) (h1 : less2 p q = false) : less2 q p = true := by
  rw [Bool.eq_false_iff, Ne] at h1
  rw [less2_iff] at *
  omega
theorem WorkLess_ev (a0 a1 b0 b1 c0 c1 : Int) : Ev (fun k => tammylaw11_WorkLess.f k a0 a1 b0 b1 c0 c1) true := by
  unfold tammylaw11_WorkLess.f
  refine shown_ev.bind ?_
  refine Ev.pure (a := false) (by unfold work_Less.f; rw [less2_self]) (Ev.neg (by decide) ?_)
  have fin : Ev (fun k => tammylaw11_WorkLess.j0 k true false a0 a1 b0 b1 c0 c1) true := by
    refine Ev.step (fun k => tammylaw11_WorkLess.j0.eq_2 _ _ _ _ _ _ _ _ k) (Ev.neg (by decide) (Ev.pos rfl ?_))
    refine Ev.pure (a := less2 ⟨a0, a1⟩ ⟨b0, b1⟩) rfl ?_
    by_cases h1 : less2 ⟨a0, a1⟩ ⟨b0, b1⟩ = true
    · refine Ev.pos h1 (Ev.pure (a := less2 ⟨b0, b1⟩ ⟨c0, c1⟩) rfl ?_)
      by_cases h2 : less2 ⟨b0, b1⟩ ⟨c0, c1⟩ = true
      · exact Ev.pos h2 (Ev.pure (a := true) (by unfold work_Less.f; rw [less2_trans h1 h2]) (Ev.now _))
      · exact Ev.neg h2 (Ev.now _)
    · exact Ev.neg h1 (Ev.now _)
  by_cases hne : (!(a0 == b0) || (!(a1 == b1))) = true
  · refine Ev.pos hne (Ev.pure (a := less2 ⟨a0, a1⟩ ⟨b0, b1⟩) rfl (Ev.pure (a := less2 ⟨b0, b1⟩ ⟨a0, a1⟩) rfl ?_))
    have : (less2 ⟨a0, a1⟩ ⟨b0, b1⟩ == less2 ⟨b0, b1⟩ ⟨a0, a1⟩) = false := by
      cases h : less2 ⟨a0, a1⟩ ⟨b0, b1⟩ with
      | true => rw [less2_asymm h]; rfl
      | false => rw [less2_total (by rintro ⟨e1, e2⟩; simp only at e1 e2; subst e1; subst e2; simp at hne) h]; rfl
    rw [this]
    exact fin
  · exact Ev.neg hne fin
theorem WorkLess_true (a0 a1 b0 b1 c0 c1 : Int) : ∃ k, tammylaw11_WorkLess.f k a0 a1 b0 b1 c0 c1 = some true := (WorkLess_ev a0 a1 b0 b1 c0 c1).rounds
end Go.Proofs.Ytfjgfkokhnpbcaa.U
