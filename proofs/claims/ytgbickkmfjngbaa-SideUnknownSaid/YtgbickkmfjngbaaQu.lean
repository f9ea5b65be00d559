/- SideUnknown, plainly. -/
import Derived.Test.YtgbickkmfjngbaaPg
import Derived.Test.YtgbickkmfjngbaaKx20
namespace Go.Proofs.Ytgbickkmfjngbaa.K
open Go.RowKit Go.Proofs.YtgbickkmfjngbaaW.PrintWords Go.Proofs.YtgbickkmfjngbaaW.PrintLast Go.Proofs.YtgbickkmfjngbaaG.Words
set_option linter.unusedVariables false
set_option linter.unusedSimpArgs false

theorem wnil (x : S38) (s : Int) : (wspec [] x s = 0 → x.f0 ≠ 3 ∧ x.f0 ≠ 6) ∧ (wspec [] x s ≠ 0 → (wspec [] x s = 3 ∧ (x.f0 = 3 ∨ x.f0 = 6)) ∨ (wspec [] x s = 6 ∧ x.f0 ≠ 2)) := by
  have hf : findI x.f1 [] 0 < 0 := by show (-1 : Int) < 0; decide
  unfold wspec
  by_cases h4 : x.f0 = 4
  · simp only [if_pos h4]
    refine ⟨fun _ => by omega, fun h => .inr ⟨?_, by omega⟩⟩
    split at h
    · exact absurd rfl h
    · next hs => rw [if_neg hs]
  simp only [if_neg h4]
  by_cases h5 : x.f0 = 5
  · simp only [if_pos h5]
    refine ⟨fun _ => by omega, fun h => .inr ⟨?_, by omega⟩⟩
    split at h
    · exact absurd rfl h
    · next hs => rw [if_neg hs]
  simp only [if_neg h5]
  by_cases h36 : x.f0 = 3 ∨ x.f0 = 6
  · simp only [if_pos h36, if_pos hf]
    exact ⟨fun h => (by cases h), fun _ => .inl ⟨trivial, h36⟩⟩
  · simp only [if_neg h36]
    exact ⟨fun _ => by omega, fun h => absurd rfl h⟩
theorem Unknown_end {e : List S38} (F : Fine e) : Ev (fun k => (tammyref01_Right.f k ([] : List (S52))).bind fun t421 => (if t421 = true then ((side_Vars.f k e).bind fun t422 => ((tammyref08_Vars.f k e).bind fun t425 => (some ((t422.length : Int) == (t425.length : Int))))) else (some false))) true := by
  refine Ev.bind sigRight_nil (Ev.pos rfl (Ev.bind (sideVars_is F.len) (Ev.bind (refVars_is F.len) ?_)))
  rw [beq_self_eq_true]; exact Ev.now _
theorem Unknown_j2 {e : List S38} (F : Fine e) {at_ w : Int} (hw : w = 0 ∨ (0 ≤ at_ ∧ at_ < e.length ∧ ((w = 3 ∧ ((rd_T38 e at_).f0 = 3 ∨ (rd_T38 e at_).f0 = 6)) ∨ (w = 6 ∧ (rd_T38 e at_).f0 ≠ 2)))) (i : Int) : Ev (fun k => tammylaw08_SideUnknown.j2 k e true at_ w i false) true := by
  refine Ev.step (fun k => tammylaw08_SideUnknown.j2.eq_2 _ _ _ _ _ _ k) (Ev.neg (by decide) (Ev.pos rfl ?_))
  have E := Unknown_end F
  by_cases h0 : w = 0
  · exact Ev.pos h0 E
  refine Ev.neg h0 ?_
  obtain ⟨ha, hb, h⟩ := hw.resolve_left h0
  by_cases h3 : w = 3
  · refine Ev.pos h3 (Ev.pos ha (Ev.pos hb ?_))
    by_cases k3 : (rd_T38 e at_).f0 = 3
    · exact Ev.pos k3 E
    · exact Ev.neg k3 (Ev.pos (by omega) E)
  · exact Ev.neg h3 (Ev.pos (by omega) (Ev.pos ha (Ev.pos hb (Ev.neg (by omega) E))))
theorem Unknown_l0 {e : List S38} (F : Fine e) {at_ w : Int} (hw : w = 0 ∨ (0 ≤ at_ ∧ at_ < e.length ∧ ((w = 3 ∧ ((rd_T38 e at_).f0 = 3 ∨ (rd_T38 e at_).f0 = 6)) ∨ (w = 6 ∧ (rd_T38 e at_).f0 ≠ 2)))) (hb : ∀ i : Nat, i < e.length → (i : Int) < at_ ∨ w = 0 → (rd_T38 e (i : Int)).f0 ≠ 3 ∧ (rd_T38 e (i : Int)).f0 ≠ 6) : ∀ (m i : Nat), i + m = e.length → Ev (fun k => tammylaw08_SideUnknown.l0 k e true at_ w (i : Int)) true
  | m, i, hm => by
    have hn := F.len
    refine Ev.step (fun k => tammylaw08_SideUnknown.l0.eq_2 _ _ _ _ _ k) ?_
    cases m with
    | zero => exact Ev.neg (by omega) (Unknown_j2 F hw _)
    | succ m =>
      have ih := Unknown_l0 F hw hb m (i + 1) (by omega)
      have go : ((i : Int) < at_ ∨ w = 0) → Ev (fun k => tammylaw08_SideUnknown.j2 k e true at_ w (i : Int) true) true := fun h => by
        have hk := hb i (by omega) h
        refine Ev.step (fun k => tammylaw08_SideUnknown.j2.eq_2 _ _ _ _ _ _ k) (Ev.pos rfl (Ev.pos (by omega) (Ev.pos (by omega) (Ev.neg hk.1 (Ev.neg hk.2 ?_)))))
        rw [w64 (n := (i : Int) + 1) (by omega)]
        exact ih
      refine Ev.pos (by omega) ?_
      by_cases h : (i : Int) < at_
      · exact Ev.pos h (go (.inl h))
      · refine Ev.neg h ?_
        by_cases h0 : w = 0
        · rw [show (w == 0) = true by simp [h0]]; exact go (.inr h0)
        · rw [show (w == 0) = false by simp [h0]]; exact Unknown_j2 F hw _
theorem SideUnknown_true (e : List S38) (a : Int) (he : e.length ≤ 9223372036854775807) (hw : (Lit.int .u8 a).wf = true) : ∃ k, tammylaw08_SideUnknown.f k e a = some true := by
  refine Ev.rounds (g := fun k => tammylaw08_SideUnknown.f k e a) ?_
  unfold tammylaw08_SideUnknown.f
  refine Ev.bind shown_is ?_
  obtain ⟨b, eb, hb⟩ := Few_all e he
  have J1 : Ev (fun k => tammylaw08_SideUnknown.j0 k e a true true) true := Ev.step (fun k => tammylaw08_SideUnknown.j0.eq_2 _ _ _ _ k) (Ev.pos rfl (Ev.now _))
  refine Ev.bind eb ?_
  by_cases h : b = true
  case neg => exact Ev.neg h J1
  obtain ⟨c, ec, hc⟩ := Right_all he (hb h)
  refine Ev.pos h (Ev.bind ec ?_)
  by_cases h2 : c = true
  case neg =>
    rw [show (!c) = true by simpa using h2]; exact J1
  have F := hc h2
  rw [h2]
  refine Ev.step (fun k => tammylaw08_SideUnknown.j0.eq_2 _ _ _ _ k) (Ev.neg (by decide) (Ev.bind (side_Check_is (l := []) (by simp) F a) ?_))
  rcases chk_cases (l := []) (e := e) (o := sides [] e a) e.length 0 with ⟨h1, h3⟩ | ⟨q, _, h1, h3, h4, h5⟩
  · rw [h3]
    exact Unknown_l0 F (.inl rfl) (fun i hi _ => (wnil _ _).1 (h1 i (by omega) (by omega))) e.length 0 (by omega)
  · rw [h5]
    refine Unknown_l0 F (.inr ⟨by omega, by omega, (wnil _ _).2 h4⟩) (fun i hi h => (wnil _ _).1 (h3 i (by omega) ?_)) e.length 0 (by omega)
    rcases h with h | h
    · exact Int.ofNat_lt.1 h
    · exact absurd h h4
end Go.Proofs.Ytgbickkmfjngbaa.K
