/- SideVars, plainly. -/
import Derived.Test.YtgbickkmfjngbaaPd
import Derived.Test.YtgbickkmfjngbaaKx18
namespace Go.Proofs.Ytgbickkmfjngbaa.K
open Go.RowKit Go.Proofs.YtgbickkmfjngbaaW.PrintWords Go.Proofs.YtgbickkmfjngbaaW.PrintLast Go.Proofs.YtgbickkmfjngbaaG.Words
set_option linter.unusedVariables false
set_option linter.unusedSimpArgs false

theorem SideVars_l1 {e : List S38} (hn : e.length ≤ 600) (a : ByteArray) (b : Bool) {l : List ByteArray} (hl : l.length ≤ e.length) (hc : cnt a l ≤ 1) (hb : cnt a l = 1 ↔ b = true) : ∀ (m i c : Nat), i + m = l.length → c + cnt a (l.drop i) = cnt a l →
    Ev (fun k => tammylaw08_SideVars.l1 k e a true l b (c : Int) (i : Int)) true
  | m, i, c, hm, hcc => by
    refine Ev.step (fun k => tammylaw08_SideVars.l1.eq_2 _ _ _ _ _ _ _ k) ?_
    cases m with
    | zero =>
      rw [List.drop_eq_nil_of_le (by omega), cnt] at hcc
      refine Ev.neg (by omega) (Ev.pos rfl (Ev.pos ?_ (Ev.pos (by omega) ?_)))
      · by_cases h1 : cnt a l = 1
        · rw [hb.1 h1, show c = 1 by omega]; rfl
        · have h2 : b = false := by cases b <;> simp_all
          rw [h2, show c = 0 by omega]; rfl
      · rw [decide_eq_true (by omega)]; exact Ev.now _
    | succ m =>
      have hi : i < l.length := by omega
      have hw : wrap64 ((i : Int) + 1) = ((i + 1 : Nat) : Int) := by rw [w64 (by omega)]; omega
      have hw2 : wrap64 ((c : Int) + 1) = ((c + 1 : Nat) : Int) := by rw [w64 (by omega)]; omega
      rw [List.drop_eq_getElem_cons hi, cnt] at hcc
      rw [hw, hw2, rdOf_get hi]
      refine Ev.pos (by omega) (Ev.pos (by omega) ?_)
      by_cases h : l[i] = a
      · rw [if_pos h] at hcc
        exact Ev.pos (toList_inj.2 h) (SideVars_l1 hn a b hl hc hb m (i + 1) (c + 1) (by omega) (by omega))
      · rw [if_neg h] at hcc
        exact Ev.neg (fun h2 => h (toList_inj.1 h2)) (SideVars_l1 hn a b hl hc hb m (i + 1) c (by omega) (by omega))
theorem SideVars_l0 {e : List S38} (hn : e.length ≤ 600) (a : ByteArray) {l : List ByteArray} (hl : l.length ≤ e.length) (hc : cnt a l ≤ 1) (hb : cnt a l = 1 ↔ ∃ x ∈ e, x.f0 = 2 ∧ x.f1 = a) : ∀ (m i : Nat) (b : Bool), i + m = e.length → (b = true ∨ (∃ x ∈ e.drop i, x.f0 = 2 ∧ x.f1 = a) ↔ ∃ x ∈ e, x.f0 = 2 ∧ x.f1 = a) →
    Ev (fun k => tammylaw08_SideVars.l0 k e a true l b (i : Int)) true
  | m, i, b, hm, h => by
    refine Ev.step (fun k => tammylaw08_SideVars.l0.eq_2 _ _ _ _ _ _ k) ?_
    cases m with
    | zero =>
      rw [List.drop_eq_nil_of_le (by omega)] at h
      refine Ev.neg (by omega) (SideVars_l1 hn a b hl hc ?_ l.length 0 0 (by omega) (by simp))
      rw [hb, ← h]; simp
    | succ m =>
      have hi : i < e.length := by omega
      have hw : wrap64 ((i : Int) + 1) = ((i + 1 : Nat) : Int) := by rw [w64 (by omega)]; omega
      rw [List.drop_eq_getElem_cons hi] at h
      simp only [List.mem_cons, exists_eq_or_imp] at h
      rw [hw, rd38_get hi]
      refine Ev.pos (by omega) ?_
      by_cases hbt : b = true
      · exact Ev.pos hbt (SideVars_l0 hn a hl hc hb m (i + 1) true (by omega) ⟨fun _ => h.1 (.inl hbt), fun _ => .inl rfl⟩)
      · refine Ev.neg hbt (Ev.pos (by omega) ?_)
        by_cases h2 : e[i].f0 = 2
        · refine Ev.pos h2 (SideVars_l0 hn a hl hc hb m (i + 1) _ (by omega) ?_)
          rw [← h]
          simp [hbt, h2, toList_inj]
        · refine Ev.neg h2 (SideVars_l0 hn a hl hc hb m (i + 1) false (by omega) ?_)
          rw [← h]
          simp [hbt, h2]
theorem SideVars_true (e : List S38) (a : ByteArray) (he : e.length ≤ 9223372036854775807) : ∃ k, tammylaw08_SideVars.f k e a = some true := by
  refine Ev.rounds (g := fun k => tammylaw08_SideVars.f k e a) ?_
  unfold tammylaw08_SideVars.f
  have J : ∀ b, (b = false → Fine e) → Ev (fun k => tammylaw08_SideVars.j0 k e a true b) true := fun b hb => by
    refine Ev.step (fun k => tammylaw08_SideVars.j0.eq_2 _ _ _ _ k) ?_
    by_cases h : b = true
    · exact Ev.pos h (Ev.now _)
    · have F := hb (by simpa using h)
      have hv := vars_len e []
      simp only [List.length_nil, Nat.add_zero] at hv
      have hc := vars_cnt (a := a) e [] (Nat.zero_le _)
      have hm := vars_mem (a := a) e []
      refine Ev.neg h (Ev.bind (sideVars_is F.len) (SideVars_l0 F.len a hv hc ?_ e.length 0 false (by omega) (by simp)))
      constructor
      · intro h1
        have : a ∈ vars e [] := Classical.byContradiction fun h2 => by rw [cnt_zero h2] at h1; cases h1
        simpa using hm.1 this
      · intro h1
        have := cnt_pos (hm.2 (.inr h1))
        omega
  refine Ev.bind shown_is ?_
  obtain ⟨b, eb, hb⟩ := Few_all e he
  refine Ev.bind eb ?_
  by_cases h : b = true
  · refine Ev.pos h ?_
    obtain ⟨c, ec, hc⟩ := Right_all he (hb h)
    refine Ev.bind ec ?_
    by_cases h2 : c = true
    · exact Ev.pos h2 (J _ (fun _ => hc h2))
    · exact Ev.neg h2 (J _ (fun h => by cases h))
  · exact Ev.neg h (J _ (fun h => by cases h))
end Go.Proofs.Ytgbickkmfjngbaa.K
