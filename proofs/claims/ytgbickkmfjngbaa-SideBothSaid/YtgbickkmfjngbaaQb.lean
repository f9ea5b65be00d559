/- SideBoth, plainly. -/
import Derived.Test.YtgbickkmfjngbaaPg
import Derived.Test.YtgbickkmfjngbaaKx16
namespace Go.Proofs.Ytgbickkmfjngbaa.K
open Go.RowKit Go.Proofs.YtgbickkmfjngbaaW.PrintWords Go.Proofs.YtgbickkmfjngbaaW.PrintLast Go.Proofs.YtgbickkmfjngbaaG.Words
set_option linter.unusedVariables false
set_option linter.unusedSimpArgs false

theorem both_kind {l : List S52} {x : S38} (h : wspec l x 66 = 0) : x.f0 ≠ 4 ∧ x.f0 ≠ 5 ∧ x.f0 ≠ 6 ∧ ∀ s, wspec l x s = 0 := by
  have h4 : x.f0 ≠ 4 := fun h4 => by unfold wspec at h; simp [h4] at h
  have h5 : x.f0 ≠ 5 := fun h5 => by unfold wspec at h; simp [h5] at h
  have h6 : x.f0 ≠ 6 := fun h6 => by
    unfold wspec at h; simp [h6] at h
    split at h
    · cases h
    · split at h <;> cases h
  refine ⟨h4, h5, h6, fun s => ?_⟩
  unfold wspec at h ⊢
  simp only [if_neg h4, if_neg h5, if_neg h6] at h ⊢
  exact h
theorem SideBoth_l0 {e : List S38} (F : Fine e) {c : Int} (hc : c = 0 → ∀ i : Nat, i < e.length → (rd_T38 e (i : Int)).f0 ≤ 3) (h1 : e.length = 1 → (rd_T38 e 0).f0 ≠ 3 → c = 0) : ∀ (m i : Nat), i + m = e.length → Ev (fun k => tammylaw08_SideBoth.l0 k e true c (i : Int)) true
  | m, i, hm => by
    have hn := F.len
    have hp := F.pos
    refine Ev.step (fun k => tammylaw08_SideBoth.l0.eq_2 _ _ _ _ k) ?_
    cases m with
    | zero =>
      refine Ev.neg (by omega) (Ev.pos rfl ?_)
      by_cases hl : (e.length : Int) > 1
      · exact Ev.pos hl (Ev.now _)
      · refine Ev.neg hl (Ev.pos (by omega) ?_)
        by_cases h3 : (rd_T38 e 0).f0 = 3
        · exact Ev.pos h3 (Ev.now _)
        · refine Ev.neg h3 ?_
          rw [h1 (by omega) h3]; exact Ev.now _
    | succ m =>
      have ih := SideBoth_l0 F hc h1 m (i + 1) (by omega)
      rw [w64 (n := (i : Int) + 1) (by omega)]
      refine Ev.pos (by omega) (Ev.pos (by omega) ?_)
      by_cases h3 : (rd_T38 e (i : Int)).f0 > 3
      · refine Ev.pos h3 (Ev.neg (fun h0 => ?_) ih)
        have := hc h0 i (by omega)
        omega
      · exact Ev.neg h3 ih
theorem SideBoth_true (l : List S52) (e : List S38) (hl : l.length ≤ 9223372036854775807 ∧ ∀ x ∈ l, x.f1.size ≤ 9223372036854775807) (he : e.length ≤ 9223372036854775807) : ∃ k, tammylaw08_SideBoth.f k l e = some true := by
  refine Ev.rounds (g := fun k => tammylaw08_SideBoth.f k l e) ?_
  unfold tammylaw08_SideBoth.f
  refine Ev.bind shown_is ?_
  obtain ⟨b, eb, hb⟩ := of_all hl.1 hl.2 he
  refine Ev.bind eb ?_
  by_cases h : b = true
  case neg => exact Ev.neg h (Ev.now _)
  obtain ⟨F, hl64⟩ := hb h
  refine Ev.pos h (Ev.bind (side_Check_is hl64 F 76) (Ev.bind (side_Check_is hl64 F 82) (Ev.bind (side_Check_is hl64 F 66) ?_)))
  have hall : (chk l e (sides l e 66) e.length 0).2 = 0 → ∀ i : Nat, i < e.length → wspec l (rd_T38 e (i : Int)) 66 = 0 := fun h0 i hi => by
    have := chk_all h0 i (by omega) (by omega)
    rwa [sides_both F hi] at this
  have hc : (chk l e (sides l e 66) e.length 0).2 = 0 → ∀ i : Nat, i < e.length → (rd_T38 e (i : Int)).f0 ≤ 3 := fun h0 i hi => by
    have := both_kind (hall h0 i hi)
    have := (F.may i hi).2
    omega
  have h1 : e.length = 1 → (rd_T38 e 0).f0 ≠ 3 → (chk l e (sides l e 66) e.length 0).2 = 0 := fun hone h3 => by
    have hf := F.fit 0 (by omega)
    have hp : pN e 0 = 0 := by have : dep e 0 = 0 := rfl; omega
    have hM := (F.may 0 (by omega)).2
    unfold pN at hp
    rw [chk_ok (fun j h0 hj => ?_)]
    obtain rfl : j = 0 := by omega
    have h3' : (rd_T38 e ((0 : Nat) : Int)).f0 ≠ 3 := h3
    have hk : (rd_T38 e ((0 : Nat) : Int)).f0 < 3 := by
      split at hp
      · cases hp
      · omega
    unfold wspec
    rw [if_neg (by omega), if_neg (by omega), if_neg (by omega)]
  have L := SideBoth_l0 F hc h1 e.length 0 (by omega)
  have J0 : Ev (fun k => tammylaw08_SideBoth.j0 k e true (chk l e (sides l e 66) e.length 0).2 false) true := Ev.step (fun k => tammylaw08_SideBoth.j0.eq_2 _ _ _ _ k) (Ev.neg (by decide) L)
  by_cases h0 : (chk l e (sides l e 66) e.length 0).2 = 0
  · have ok : ∀ a, chk l e (sides l e a) e.length 0 = (0, 0) := fun a => chk_ok (fun j _ hj => (both_kind (hall h0 j (by omega))).2.2.2 _)
    refine Ev.pos h0 (Ev.pos (by rw [ok]) ?_)
    rw [ok 82]
    exact J0
  · exact Ev.neg h0 J0
end Go.Proofs.Ytgbickkmfjngbaa.K
