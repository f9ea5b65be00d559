/- SideFirst, plainly. -/
import Derived.Test.YtgbickkmfjngbaaPw
import Derived.Test.YtgbickkmfjngbaaKx20
namespace Go.Proofs.Ytgbickkmfjngbaa.K
open Go.RowKit Go.Proofs.YtgbickkmfjngbaaW.PrintWords Go.Proofs.YtgbickkmfjngbaaW.PrintLast Go.Proofs.YtgbickkmfjngbaaG.Words
set_option linter.unusedVariables false
set_option linter.unusedSimpArgs false

theorem SideFirst_true (l : List S52) (e : List S38) (a t : Int) (hl : l.length ≤ 9223372036854775807 ∧ ∀ x ∈ l, x.f1.size ≤ 9223372036854775807) (he : e.length ≤ 9223372036854775807) (hwa : (Lit.int .u8 a).wf = true) (hwt : (Lit.int .i64 t).wf = true) : ∃ k, tammylaw08_SideFirst.f k l e a t = some true := by
  refine Ev.rounds (g := fun k => tammylaw08_SideFirst.f k l e a t) ?_
  unfold tammylaw08_SideFirst.f
  refine Ev.bind shown_is ?_
  obtain ⟨b, eb, hb⟩ := of_all hl.1 hl.2 he
  refine Ev.bind eb ?_
  by_cases h : b = true
  case neg => exact Ev.neg h (Ev.now _)
  obtain ⟨F, hl64⟩ := hb h
  have hn := F.len
  have hp := F.pos
  have hlen := sides_len l e a
  have J1 : Ev (fun k => tammylaw08_SideFirst.j1 k l e t true (sides l e a) true) true := Ev.step (fun k => tammylaw08_SideFirst.j1.eq_2 _ _ _ _ _ _ k) (Ev.pos rfl (Ev.now _))
  refine Ev.pos h (Ev.bind (side_Check_is hl64 F a) (Ev.pure (side_Of_is hl64 F a) ?_))
  rcases chk_cases (l := l) (e := e) (o := sides l e a) e.length 0 with ⟨h1, h3⟩ | ⟨q, _, h1, h3, h4, h5⟩
  · rw [h3]
    refine Ev.neg (by decide) (Ev.neg (by show ¬ ((0 : Int) ≥ (e.length : Int)); omega) (Ev.pos (by omega) (Ev.pos rfl ?_)))
    exact Ev.step (fun k => tammylaw08_SideFirst.j0.eq_2 _ _ _ _ _ _ _ _ k) (Ev.neg (by decide) (Ev.pos rfl J1))
  · rw [h5]
    have hq : q < e.length := by omega
    refine Ev.neg (by show ¬ ((q : Int) < 0); omega) (Ev.neg (by show ¬ ((q : Int) ≥ (e.length : Int)); omega) (Ev.pos (by omega) (Ev.neg h4 ?_)))
    refine Ev.step (fun k => tammylaw08_SideFirst.j0.eq_2 _ _ _ _ _ _ _ _ k) (Ev.neg (by decide) (Ev.neg h4 ?_))
    by_cases ht0 : t < 0
    · exact Ev.pos ht0 J1
    refine Ev.neg ht0 ?_
    by_cases ht1 : t ≥ (q : Int)
    · rw [decide_eq_true ht1]; exact J1
    rw [decide_eq_false ht1]
    obtain ⟨u, rfl⟩ : ∃ u : Nat, t = (u : Int) := ⟨t.toNat, by omega⟩
    have hu : u < e.length := by omega
    have hst := St_rng F hu
    obtain ⟨s, hs⟩ : ∃ s : Nat, rd (St e) (u : Int) = (s : Int) := ⟨(rd (St e) (u : Int)).toNat, by omega⟩
    have PF := part_fine F hu hs
    have hpl := part_len (s := s) hu
    have hS := St_len e
    refine Ev.step (fun k => tammylaw08_SideFirst.j1.eq_2 _ _ _ _ _ _ k) (Ev.neg (by decide) (Ev.bind (Starts_is F) ?_))
    rw [w64 (n := (u : Int) + 1) (by omega), hs]
    refine Ev.pos (by omega) (Ev.pos (by omega) (Ev.pure rfl (Ev.pos (by omega) (Ev.pos (by omega) (Ev.pos (by omega) (Ev.pure rfl ?_))))))
    have hpart : (e.take ((u : Int) + 1).toNat).drop ((s : Int)).toNat = part e s u := by
      rw [show ((u : Int) + 1).toNat = u + 1 by omega, Int.toNat_natCast]; rfl
    rw [hpart, List.nil_append]
    refine Ev.pos (by simp only [List.length_nil]; omega) (Ev.pos (by omega) (Ev.bind (side_Check_is hl64 PF _) (Ev.pos rfl ?_)))
    rw [part_ok F hu hs a (fun j h6 h7 => h3 j (by omega) (by omega))]
    exact Ev.now _
end Go.Proofs.Ytgbickkmfjngbaa.K
