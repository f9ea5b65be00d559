/- Plainly: a queue with a pair more, the next one; the document's example. -/
import Derived.Test.YtfjgfkokhnpbcaaPc
import Derived.Test.YtfjgfkokhnpbcaaYb
import Derived.Test.YtfjgfkokhnpbcaaUx6
namespace Go.Proofs.Ytfjgfkokhnpbcaa.U
open Go.RowKit Go.Proofs.YtfjgfkokhnpbcaaW.PrintWords Go.Proofs.YtfjgfkokhnpbcaaW.PrintLast Go.Proofs.YtfjgfkokhnpbcaaW.PrintMore
set_option linter.unusedVariables false
set_option linter.unusedSimpArgs false
def wputS (L : List S30) (keys : List (List Int)) (p0 p1 : Int) : List S30 × List (List Int) × List Int × Bool :=
  if 0 ≤ atI [p0, p1] keys 0 then (L, keys, layS keys, false) else (upL L.length (L ++ [⟨p0, p1⟩]) L.length, keys ++ [[p0, p1]], layS (keys ++ [[p0, p1]]), true)
theorem wput_ev {L : List S30} {keys : List (List Int)} (H : Keys keys) (hn : keys.length ≤ 5999) (hd : keys.Nodup) (hL : L.length < 8796093022207) (p0 p1 : Int) : Ev (fun k => work_Put.f k L keys (layS keys) p0 p1) (wputS L keys p0 p1) := by
  unfold work_Put.f
  refine (put_ev H hn hd [p0, p1] (by simp)).bind ?_
  unfold putS wputS
  by_cases h : 0 ≤ atI [p0, p1] keys 0
  · rw [if_pos h, if_pos h]
    exact Ev.neg (by simp) (Ev.now _)
  · rw [if_neg h, if_neg h]
    exact Ev.pos rfl (Ev.pos hL (Ev.now _))
theorem new_ev : Ev (fun k => work_New.f k) ([], [], layS []) := by
  unfold work_New.f
  exact (lay_ev ⟨by decide, fun q hq => by cases hq⟩ (by decide)).bind (Ev.now _)
/-- Where a pair stands among others. -/
def idxS (p : S30) : List S30 → Int → Int
  | [], _ => -1
  | q :: qs, i => if p.f0 = q.f0 ∧ p.f1 = q.f1 then i else idxS p qs (i + 1)
theorem index_from (L : List S30) (hL : L.length ≤ 9223372036854775806) (p : S30) : ∀ (m i : Nat), i + m = L.length → Ev (fun k => api_Pair_36.l0 k L (L.length : Int) (i : Int) p.f0 p.f1) (idxS p (L.drop i) i)
  | 0, i, h => by
    rw [List.drop_of_length_le (by omega)]
    exact Ev.step (fun k => api_Pair_36.l0.eq_2 L _ i p.f0 p.f1 k) (Ev.neg (by omega) (Ev.now _))
  | m + 1, i, h => by
    have hi : i < L.length := by omega
    have ih := index_from L hL p m (i + 1) (by omega)
    have hrd : rd_T30 L (i : Int) = L[i] := by simp [rd_T30, hi]
    rw [List.drop_eq_getElem_cons hi]
    refine Ev.step (fun k => api_Pair_36.l0.eq_2 L _ i p.f0 p.f1 k) (Ev.pos (by omega) (Ev.pos (by omega) (Ev.pos (by omega) ?_)))
    rw [hrd]
    unfold idxS
    by_cases e : p.f0 = L[i].f0 ∧ p.f1 = L[i].f1
    · rw [if_pos e]
      exact Ev.pos (by simp [e.1, e.2]) (Ev.now _)
    · rw [if_neg e]
      refine Ev.neg (by simpa using e) ?_
      rw [show wrap64 ((i : Int) + 1) = ((i + 1 : Nat) : Int) from by rw [w64 (by omega)]; rfl]
      exact ih
theorem index_ev (L : List S30) (hL : L.length ≤ 9223372036854775806) (p : S30) : Ev (fun k => api_Pair_36.f k L p.f0 p.f1) (idxS p L 0) := index_from L hL p L.length 0 (by omega)
theorem shown_ev : Ev (fun k => tammylaw11_shown.f k) true := by
  unfold tammylaw11_shown.f
  have H0 : Keys [] := ⟨by decide, fun q hq => by cases hq⟩
  have H1 : Keys [[2, 1]] := ⟨by decide, fun q hq => by rw [List.mem_singleton.1 hq]; decide⟩
  have H2 : Keys [[2, 1], [1, 5]] := ⟨by decide, fun q hq => by
    have : q = [2, 1] ∨ q = [1, 5] := by simpa using hq
    rcases this with rfl | rfl <;> decide⟩
  refine new_ev.bind ?_
  dsimp only
  have p1 : wputS [] [] 2 1 = ([⟨2, 1⟩], [[2, 1]], layS [[2, 1]], true) := by unfold wputS; rw [if_neg (by decide)]; rfl
  have h1 := wput_ev (L := []) H0 (by decide) (by decide) (by decide) 2 1
  rw [p1] at h1
  refine h1.bind ?_
  dsimp only
  have p2 : wputS [⟨2, 1⟩] [[2, 1]] 1 5 = ([⟨1, 5⟩, ⟨2, 1⟩], [[2, 1], [1, 5]], layS [[2, 1], [1, 5]], true) := by unfold wputS; rw [if_neg (by decide)]; rfl
  have h2 := wput_ev (L := [⟨2, 1⟩]) H1 (by decide) (by decide) (by decide) 1 5
  rw [p2] at h2
  refine h2.bind ?_
  dsimp only
  have p3 : wputS [⟨1, 5⟩, ⟨2, 1⟩] [[2, 1], [1, 5]] 2 1 = ([⟨1, 5⟩, ⟨2, 1⟩], [[2, 1], [1, 5]], layS [[2, 1], [1, 5]], false) := by unfold wputS; rw [if_pos (by decide)]
  have h3 := wput_ev (L := [⟨1, 5⟩, ⟨2, 1⟩]) H2 (by decide) (by decide) (by decide) 2 1
  rw [p3] at h3
  refine h3.bind ?_
  dsimp only
  refine Ev.pure (a := (popL [⟨1, 5⟩, ⟨2, 1⟩], [[2, 1], [1, 5]], layS [[2, 1], [1, 5]], 1, 5, true)) rfl ?_
  have hr : Ev (fun k => work_Right.f k [⟨1, 5⟩, ⟨2, 1⟩] [[2, 1], [1, 5]] (layS [[2, 1], [1, 5]])) true := by
    unfold work_Right.f
    refine (hright_ev H2 (by decide) (by decide)).bind (Ev.pos rfl (Ev.neg (by decide) ?_))
    have hd : ([[2, 1], [1, 5]] : List (List Int)).Nodup := by decide
    show Ev (fun k => rightW k [⟨1, 5⟩, ⟨2, 1⟩] [[2, 1], [1, 5]] (layS [[2, 1], [1, 5]]) 2 0) true
    unfold rightW
    refine Ev.neg (by decide) ((index_ev [⟨1, 5⟩, ⟨2, 1⟩] (by decide) ⟨1, 5⟩).bind (Ev.pos (by decide) ((find_ev H2 (by decide) hd [1, 5] (by decide)).bind (Ev.neg (by decide) ?_))))
    unfold rightW
    refine Ev.neg (by decide) ((index_ev [⟨1, 5⟩, ⟨2, 1⟩] (by decide) ⟨2, 1⟩).bind (Ev.pos (by decide) ((find_ev H2 (by decide) hd [2, 1] (by decide)).bind (Ev.neg (by decide) ?_))))
    exact Ev.now _
  refine hr.bind ?_
  exact Ev.pos ⟨rfl, rfl, rfl, rfl, rfl, rfl, rfl⟩ (Ev.now _)
end Go.Proofs.Ytfjgfkokhnpbcaa.U
