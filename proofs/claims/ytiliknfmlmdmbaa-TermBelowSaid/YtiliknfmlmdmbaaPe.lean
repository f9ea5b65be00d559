/- Plainly: the document's example. -/
import Derived.Test.YtiliknfmlmdmbaaPd
import Derived.Test.YtiliknfmlmdmbaaHm
import Derived.Test.YtiliknfmlmdmbaaTx0
import Derived.Test.YtiliknfmlmdmbaaTx2
import Derived.Test.YtiliknfmlmdmbaaTx5
import Derived.Test.YtiliknfmlmdmbaaTx7
namespace Go.Proofs.Ytiliknfmlmdmbaa.T
open Go.RowKit Go.Proofs.YtiliknfmlmdmbaaW.PrintWords Go.Proofs.YtiliknfmlmdmbaaW.PrintLast Go.Proofs.YtiliknfmlmdmbaaW.PrintMore
set_option linter.unusedVariables false
set_option linter.unusedSimpArgs false

theorem key_is (a b c : Int) {l : List Int} (h : l.length ≤ 2000) : term_Key.f a b c l = some (a :: b :: c :: l) := by
  unfold term_Key.f
  simp only [Option.bind_some]
  rw [if_pos (by simp; omega)]
  rfl
/-- The store of two, and the one with a variable. -/
def K2 : List (List Int) := [[0, 0, 0], [1, 0, 0]]
def K3 : List (List Int) := [[0, 0, 0], [1, 0, 0], [2, 0, 0]]
theorem K3_keys : Keys K3 := ⟨by decide, fun q hq => by
  have : q = [0, 0, 0] ∨ q = [1, 0, 0] ∨ q = [2, 0, 0] := by simpa [K3] using hq
  rcases this with rfl | rfl | rfl <;> decide⟩
theorem K2_keys : Keys K2 := ⟨by decide, fun q hq => by
  have : q = [0, 0, 0] ∨ q = [1, 0, 0] := by simpa [K2] using hq
  rcases this with rfl | rfl <;> decide⟩
theorem K1_keys : Keys [[0, 0, 0]] := ⟨by decide, fun q hq => by rw [List.mem_singleton.1 hq]; decide⟩
theorem K0_keys : Keys [] := ⟨by decide, fun q hq => by cases hq⟩
theorem new_ev : Ev (fun k => term_New.f k) (K2, layS K2) := by
  unfold term_New.f
  refine (lay_ev K0_keys (by decide)).bind ?_
  have p1 : putS [] [0, 0, 0] = ([[0, 0, 0]], layS [[0, 0, 0]], 0, true) := by unfold putS; rw [if_neg (by decide)]; rfl
  have h1 := put_ev K0_keys (by decide) (by decide) [0, 0, 0] (by decide)
  rw [p1] at h1
  refine h1.bind ?_
  dsimp only
  have p2 : putS [[0, 0, 0]] [1, 0, 0] = (K2, layS K2, 1, true) := by unfold putS; rw [if_neg (by decide)]; rfl
  have h2 := put_ev K1_keys (by decide) (by decide) [1, 0, 0] (by decide)
  rw [p2] at h2
  refine h2.bind ?_
  dsimp only
  exact Ev.now _
theorem term3 (i : Nat) (hi : i < 3) : term_of.f (rd_L4 K3 (i : Int)) = some ((i : Int), 0, 0, [], true) ∧ term_may.f [] (i : Int) (i : Int) 0 0 [] = some true := by
  have : i = 0 ∨ i = 1 ∨ i = 2 := by omega
  rcases this with rfl | rfl | rfl <;> exact ⟨rfl, by rw [may_is (by decide)]; rfl⟩
theorem right3_from : ∀ (m i : Nat), i + m = 3 → Ev (fun k => term_Right.l0 k [] K3 3 (i : Int)) true
  | 0, i, h => Ev.step (fun k => term_Right.l0.eq_2 [] K3 3 i k) (Ev.neg (by omega) (Ev.now _))
  | m + 1, i, h => by
    obtain ⟨h1, h2⟩ := term3 i (by omega)
    refine Ev.step (fun k => term_Right.l0.eq_2 [] K3 3 i k) (Ev.pos (by omega) (Ev.pos (by omega) (Ev.pos (show (i : Int) < (3 : Nat) by omega) ?_)))
    rw [h1]
    simp only [Option.bind_some, if_true]
    rw [h2]
    simp only [Option.bind_some, if_true]
    rw [show wrap64 ((i : Int) + 1) = ((i + 1 : Nat) : Int) from by rw [w64 (by omega)]; rfl]
    by_cases e : (i : Int) < 2
    · exact Ev.pos e (right3_from m (i + 1) (by omega))
    · exact Ev.neg e (right3_from m (i + 1) (by omega))
theorem right3 : Ev (fun k => term_Right.f k [] K3 (layS K3)) true := by
  unfold term_Right.f
  refine (hright_ev K3_keys (by decide) (by decide)).bind (Ev.pos rfl ?_)
  exact Ev.step (fun k => term_Right.j0.eq_2 [] _ K3 _ k) (Ev.neg (by decide) (right3_from 3 0 rfl))
theorem K3_store : Store [] K3 := ⟨K3_keys, by decide, by decide, by decide, fun i hi => by
  have : i = 0 ∨ i = 1 ∨ i = 2 := by have : i < 3 := hi; omega
  rcases this with rfl | rfl | rfl <;> exact Nat.le_refl 3, fun i hi x hx => by
  have : i = 0 ∨ i = 1 ∨ i = 2 := by have : i < 3 := hi; omega
  rcases this with rfl | rfl | rfl <;> cases hx⟩
theorem shown_ev : Ev (fun k => tammylaw03_shown.f k) true := by
  unfold tammylaw03_shown.f
  refine new_ev.bind ?_
  dsimp only
  have hput : Ev (fun k => term_Put.f k [] K2 (layS K2) 2 0 0 [] 9) (K3, layS K3, 2, 0) := by
    unfold term_Put.f term_May.f
    rw [may_is (by decide)]
    refine Ev.pure (a := true) rfl (Ev.pos rfl ?_)
    refine Ev.pure (key_is 2 0 0 (by decide)) ?_
    have p : putS K2 [2, 0, 0] = (K3, layS K3, 2, true) := by unfold putS; rw [if_neg (by decide)]; rfl
    have h := put_ev K2_keys (by decide) (by decide) [2, 0, 0] (by decide)
    rw [p] at h
    refine h.bind ?_
    dsimp only
    exact Ev.pos rfl (Ev.neg (by decide) (Ev.now _))
  refine hput.bind ?_
  dsimp only
  refine right3.bind ?_
  obtain ⟨r, hr, hb⟩ := tBelow_ev (slots := layS K3) K3_store (id := 2) (by decide)
  have : IsBelow K3 2 [2] := ⟨List.pairwise_singleton _ _, fun x => by
    rw [List.mem_singleton]
    constructor
    · intro e; exact ⟨2, e, .refl⟩
    · rintro ⟨n, e, h⟩
      have h2 : n = 2 := by
        have hle := reach_le K3_store (id := 2) (by decide) h
        rcases h.inv with e | ⟨y, h1, h2⟩
        · exact e
        · have hy := reach_le K3_store (id := 2) (by decide) h1
          have : y = 0 ∨ y = 1 ∨ y = 2 := by omega
          rcases this with rfl | rfl | rfl <;> cases h2
      rw [e, h2]; rfl⟩
  rw [hb.inj this] at hr
  exact hr.bind (Ev.pos ⟨rfl, rfl, rfl, rfl, rfl⟩ (Ev.now _))

end Go.Proofs.Ytiliknfmlmdmbaa.T
