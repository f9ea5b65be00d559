/- SideTurns, plainly. -/
import Derived.Test.YtgbickkmfjngbaaPg
import Derived.Test.YtgbickkmfjngbaaKx19
namespace Go.Proofs.Ytgbickkmfjngbaa.K
open Go.RowKit Go.Proofs.YtgbickkmfjngbaaW.PrintWords Go.Proofs.YtgbickkmfjngbaaW.PrintLast Go.Proofs.YtgbickkmfjngbaaG.Words
set_option linter.unusedVariables false
set_option linter.unusedSimpArgs false

def Flip (s t : Int) : Prop := (s = 66 ∧ t = 66) ∨ (s = 76 ∧ t = 82) ∨ (s = 82 ∧ t = 76)
theorem Flip.turn (s t v : Int) (h : Flip s t) : Flip (tspec s v) (tspec t v) := by
  unfold Flip tspec at *
  by_cases h1 : v = 43 <;> by_cases h2 : v = 45 <;> rcases h with ⟨rfl, rfl⟩ | ⟨rfl, rfl⟩ | ⟨rfl, rfl⟩ <;> simp [h1, h2]
theorem SideTurns_l0 {l : List S52} {e : List S38} (F : Fine e) : ∀ (m i : Nat), i + m = e.length → Ev (fun k => tammylaw08_SideTurns.l0 k e true (sides l e 76) (sides l e 82) (sides l e 66) (i : Int)) true
  | m, i, hm => by
    have hn := F.len
    have hp := F.pos
    have ha := sides_len l e 76
    have hb := sides_len l e 82
    have hc := sides_len l e 66
    refine Ev.step (fun k => tammylaw08_SideTurns.l0.eq_2 _ _ _ _ _ _ k) ?_
    cases m with
    | zero =>
      rw [w64 (n := (e.length : Int) - 1) (by omega), sides_last F, sides_last F]
      exact Ev.neg (by omega) (Ev.pos rfl (Ev.pos (by omega) (Ev.pos (by omega) (Ev.pos rfl (Ev.pos (by omega) (Ev.now _))))))
    | succ m =>
      have ih := SideTurns_l0 (l := l) F m (i + 1) (by omega)
      have f := sides_rel (l := l) F (R := Flip) Flip.turn (a := 76) (b := 82) (.inr (.inl ⟨rfl, rfl⟩)) (x := i) (by omega)
      rw [w64 (n := (i : Int) + 1) (by omega)]
      refine Ev.pos (by omega) (Ev.pos (by omega) (Ev.pos (by omega) (Ev.pos (sides_both F (by omega)) (Ev.pos (by omega) (Ev.pos (by omega) ?_)))))
      rcases f with ⟨h1, h2⟩ | ⟨h1, h2⟩ | ⟨h1, h2⟩
      · rw [h1, h2]; exact Ev.neg (by decide) (Ev.pos rfl ih)
      · rw [h1, h2]; exact Ev.neg (by decide) (Ev.neg (by decide) (Ev.neg (by decide) ih))
      · rw [h1, h2]; exact Ev.neg (by decide) (Ev.neg (by decide) (Ev.neg (by decide) ih))
theorem SideTurns_true (l : List S52) (e : List S38) (hl : l.length ≤ 9223372036854775807 ∧ ∀ x ∈ l, x.f1.size ≤ 9223372036854775807) (he : e.length ≤ 9223372036854775807) : ∃ k, tammylaw08_SideTurns.f k l e = some true := by
  refine Ev.rounds (g := fun k => tammylaw08_SideTurns.f k l e) ?_
  unfold tammylaw08_SideTurns.f
  refine Ev.bind shown_is ?_
  obtain ⟨b, eb, hb⟩ := of_all hl.1 hl.2 he
  refine Ev.bind eb ?_
  by_cases h : b = true
  case neg => exact Ev.neg h (Ev.now _)
  obtain ⟨F, hl64⟩ := hb h
  have ha := sides_len l e 76
  have hb := sides_len l e 82
  have hc := sides_len l e 66
  refine Ev.pos h (Ev.pure (side_Of_is hl64 F 76) (Ev.pure (side_Of_is hl64 F 82) (Ev.pure (side_Of_is hl64 F 66) (Ev.pos (by omega) (Ev.pos (by omega) ?_)))))
  rw [show (((sides l e 66).length : Int) != (e.length : Int)) = false by rw [hc]; simp]
  exact Ev.step (fun k => tammylaw08_SideTurns.j0.eq_2 _ _ _ _ _ _ k) (Ev.neg (by decide) (SideTurns_l0 F e.length 0 (by omega)))
end Go.Proofs.Ytgbickkmfjngbaa.K
