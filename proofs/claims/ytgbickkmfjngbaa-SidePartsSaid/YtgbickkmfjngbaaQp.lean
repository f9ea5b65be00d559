/- SideParts, plainly. -/
import Derived.Test.YtgbickkmfjngbaaPw
import Derived.Test.YtgbickkmfjngbaaKx17
namespace Go.Proofs.Ytgbickkmfjngbaa.K
open Go.RowKit Go.Proofs.YtgbickkmfjngbaaW.PrintWords Go.Proofs.YtgbickkmfjngbaaW.PrintLast Go.Proofs.YtgbickkmfjngbaaG.Words
set_option linter.unusedVariables false
set_option linter.unusedSimpArgs false

theorem SideParts_true (l : List S52) (e : List S38) (a t : Int) (hl : l.length ≤ 9223372036854775807 ∧ ∀ x ∈ l, x.f1.size ≤ 9223372036854775807) (he : e.length ≤ 9223372036854775807) (hwa : (Lit.int .u8 a).wf = true) (hwt : (Lit.int .i64 t).wf = true) : ∃ k, tammylaw08_SideParts.f k l e a t = some true := by
  refine Ev.rounds (g := fun k => tammylaw08_SideParts.f k l e a t) ?_
  unfold tammylaw08_SideParts.f
  refine Ev.bind shown_is ?_
  obtain ⟨b, eb, hb⟩ := of_all hl.1 hl.2 he
  have J1 : Ev (fun k => tammylaw08_SideParts.j0 k l e a t true true) true := Ev.step (fun k => tammylaw08_SideParts.j0.eq_2 _ _ _ _ _ _ k) (Ev.pos rfl (Ev.now _))
  refine Ev.bind eb ?_
  by_cases h : b = true
  case neg => exact Ev.neg h J1
  obtain ⟨F, hl64⟩ := hb h
  refine Ev.pos h ?_
  by_cases h0 : t < 0
  · exact Ev.pos h0 J1
  refine Ev.neg h0 ?_
  by_cases h1 : t ≥ (e.length : Int)
  · rw [decide_eq_true h1]; exact J1
  rw [decide_eq_false h1]
  obtain ⟨q, rfl⟩ : ∃ q : Nat, t = (q : Int) := ⟨t.toNat, by omega⟩
  have hq : q < e.length := by omega
  have hn := F.len
  have hst := St_rng F hq
  obtain ⟨s, hs⟩ : ∃ s : Nat, rd (St e) (q : Int) = (s : Int) := ⟨(rd (St e) (q : Int)).toNat, by omega⟩
  have hlen := sides_len l e a
  have PF := part_fine F hq hs
  have hpl := part_len (s := s) hq
  have hS := St_len e
  refine Ev.step (fun k => tammylaw08_SideParts.j0.eq_2 _ _ _ _ _ _ k) (Ev.neg (by decide) (Ev.pure (side_Of_is hl64 F a) (Ev.pos (by omega) (Ev.bind (Starts_is F) ?_))))
  rw [w64 (n := (q : Int) + 1) (by omega), hs]
  refine Ev.pos (by omega) (Ev.pos (by omega) (Ev.pure rfl (Ev.pos (by omega) (Ev.pos (by omega) (Ev.pos (by omega) (Ev.pure rfl ?_))))))
  have hpart : (e.take ((q : Int) + 1).toNat).drop ((s : Int)).toNat = part e s q := by
    rw [show ((q : Int) + 1).toNat = q + 1 by omega, Int.toNat_natCast]; rfl
  have hwin : ((sides l e a).take ((q : Int) + 1).toNat).drop ((s : Int)).toNat = sides l (part e s q) (rd (sides l e a) (q : Int)) := by
    rw [show ((q : Int) + 1).toNat = q + 1 by omega, Int.toNat_natCast, part_window F hq hs a]
  rw [hpart, hwin]
  refine Ev.pos (by simp only [List.length_nil]; omega) (Ev.pure rfl ?_)
  rw [List.nil_append]
  refine Ev.pos (by omega) (Ev.pure (side_Of_is hl64 PF _) (Ev.bind (side_Check_is hl64 F a) (Ev.bind (side_Check_is hl64 PF _) (Ev.pos rfl (Ev.pos (by omega) (Ev.pos rfl ?_))))))
  by_cases hc : (chk l e (sides l e a) e.length 0).2 = 0
  · refine Ev.pos hc ?_
    rw [part_ok F hq hs a (fun j h1 h2 => chk_all hc j (by omega) (by omega))]
    exact Ev.now _
  · exact Ev.neg hc (Ev.now _)
end Go.Proofs.Ytgbickkmfjngbaa.K
