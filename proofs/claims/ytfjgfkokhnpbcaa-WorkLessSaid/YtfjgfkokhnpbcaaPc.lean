/- Plainly: tables that are short; stores that are right; rows that are the same. -/
import Derived.Test.YtfjgfkokhnpbcaaPa
import Derived.Test.YtfjgfkokhnpbcaaHh
import Derived.Test.YtfjgfkokhnpbcaaUx0
import Derived.Test.YtfjgfkokhnpbcaaUx6
import Derived.Test.YtfjgfkokhnpbcaaUx7
import Derived.Test.YtfjgfkokhnpbcaaUx8
namespace Go.Proofs.Ytfjgfkokhnpbcaa.U
open Go.RowKit Go.Proofs.YtfjgfkokhnpbcaaW.PrintWords Go.Proofs.YtfjgfkokhnpbcaaW.PrintLast Go.Proofs.YtfjgfkokhnpbcaaW.PrintMore
set_option linter.unusedVariables false
set_option linter.unusedSimpArgs false

/-! ### Short tables -/
def sumL : List (List Int) → Nat
  | [] => 0
  | q :: qs => 1 + q.length + sumL qs
theorem few_from {keys : List (List Int)} {slots : List Int} (H : Keys keys) : ∀ (m i : Nat) (x : Nat), i + m = keys.length → x ≤ 140737488355328 → ∃ b, Ev (fun k => tammyref02_Few.l0 k (x : Int) (i : Int) keys slots) b ∧ (b = true → x + sumL (keys.drop i) ≤ 2000)
  | 0, i, x, h, hx => by
    refine ⟨decide ((x : Int) ≤ 2000), Ev.step (fun k => tammyref02_Few.l0.eq_2 _ i keys slots k) (Ev.neg (by omega) (Ev.now _)), fun hb => ?_⟩
    rw [List.drop_of_length_le (by omega)]
    have := of_decide_eq_true hb
    simp only [sumL]; omega
  | m + 1, i, x, h, hx => by
    have hi : i < keys.length := by omega
    have hl := H.len
    have hr := H.row _ (List.getElem_mem hi)
    by_cases e : (x : Int) ≤ 2000
    · obtain ⟨b, hb, hs⟩ := few_from (slots := slots) H m (i + 1) (x + 1 + keys[i].length) (by omega) (by unfold Sh at hr; omega)
      refine ⟨b, Ev.step (fun k => tammyref02_Few.l0.eq_2 _ i keys slots k) (Ev.pos (by omega) (Ev.pos e (Ev.pos (by omega) ?_))), fun h2 => ?_⟩
      · rw [rdL_at hi]
        have h1 : wrap64 ((x : Int) + 1) = ((x + 1 : Nat) : Int) := by rw [w64 (by omega)]; rfl
        have h2 : wrap64 (((x + 1 : Nat) : Int) + (keys[i].length : Int)) = ((x + 1 + keys[i].length : Nat) : Int) := by unfold Sh at hr; rw [w64 (by omega)]; omega
        have h3 : wrap64 ((i : Int) + 1) = ((i + 1 : Nat) : Int) := by unfold Sh at hl; rw [w64 (by omega)]; rfl
        rw [h1, h2, h3]
        exact hb
      · rw [drop_at hi, sumL]
        have := hs h2
        omega
    · exact ⟨_, Ev.step (fun k => tammyref02_Few.l0.eq_2 _ i keys slots k) (Ev.pos (by omega) (Ev.neg e (Ev.now _))), fun hb => absurd (of_decide_eq_true hb) e⟩
theorem sumL_len : ∀ (keys : List (List Int)), keys.length ≤ sumL keys
  | [] => Nat.le_refl _
  | q :: qs => by have := sumL_len qs; simp only [sumL, List.length_cons]; omega
theorem sumL_row : ∀ {keys : List (List Int)} {q : List Int}, q ∈ keys → q.length ≤ sumL keys
  | p :: ps, q, h => by
    rcases List.mem_cons.1 h with rfl | h
    · simp only [sumL]; omega
    · have := sumL_row h; simp only [sumL]; omega
theorem few_ev {keys : List (List Int)} {slots : List Int} (H : Keys keys) (hs : Sh slots) : ∃ b, Ev (fun k => tammyref02_Few.f k keys slots) b ∧ (b = true → slots.length + sumL keys ≤ 2000) := by
  unfold Sh at hs
  exact few_from H keys.length 0 slots.length (by omega) (by omega)

/-! ### Tables that are right -/
theorem right_from {keys : List (List Int)} {slots : List Int} (H : Keys keys) (hn : keys.length ≤ 6000) (hs : Sh slots) : ∀ (m i : Nat), i + m = keys.length → ∃ b, Ev (fun k => tammyref02_Right.l0 k (i : Int) keys slots) b ∧ (b = true → (∀ (j : Nat) (hj : j < keys.length), i ≤ j → atI keys[j] keys 0 = j) ∧ slots = layS keys)
  | 0, i, h => by
    refine ⟨decide (slots = layS keys), Ev.step (fun k => tammyref02_Right.l0.eq_2 i keys slots k) (Ev.neg (by omega) ((rlay_ev H hn).bind ((ints_ev hs).bind (Ev.now _)))), fun hb => ⟨fun j hj hij => absurd hij (by omega), of_decide_eq_true hb⟩⟩
  | m + 1, i, h => by
    have hi : i < keys.length := by omega
    have hl := H.len
    by_cases e : atI keys[i] keys 0 = i
    · obtain ⟨b, hb, hr⟩ := right_from H hn hs m (i + 1) (by omega)
      refine ⟨b, Ev.step (fun k => tammyref02_Right.l0.eq_2 i keys slots k) (Ev.pos (by omega) (Ev.pos (by omega) ?_)), fun h2 => ⟨fun j hj hij => ?_, (hr h2).2⟩⟩
      · rw [rdL_at hi]
        refine (at_ev H _).bind (Ev.pos e ?_)
        have h3 : wrap64 ((i : Int) + 1) = ((i + 1 : Nat) : Int) := by unfold Sh at hl; rw [w64 (by omega)]; rfl
        rw [h3]
        exact hb
      · by_cases e2 : j = i
        · subst e2; exact e
        · exact (hr h2).1 j hj (by omega)
    · refine ⟨false, Ev.step (fun k => tammyref02_Right.l0.eq_2 i keys slots k) (Ev.pos (by omega) (Ev.pos (by omega) ?_)), fun h => by cases h⟩
      rw [rdL_at hi]
      exact (at_ev H _).bind (Ev.neg e (Ev.now _))
theorem nodup_of_at {keys : List (List Int)} (h : ∀ (j : Nat) (hj : j < keys.length), atI keys[j] keys 0 = j) : keys.Nodup := by
  rw [List.Nodup, List.pairwise_iff_getElem]
  intro i j hi hj hij e
  have h1 := h i hi
  rw [e, h j hj] at h1
  omega
theorem rright_ev {keys : List (List Int)} {slots : List Int} (H : Keys keys) (hn : keys.length ≤ 6000) (hs : Sh slots) : ∃ b, Ev (fun k => tammyref02_Right.f k keys slots) b ∧ (b = true → keys.Nodup ∧ slots = layS keys) := by
  obtain ⟨b, hb, h⟩ := right_from H hn hs keys.length 0 (by omega)
  exact ⟨b, hb, fun h2 => ⟨nodup_of_at (fun j hj => (h h2).1 j hj (Nat.zero_le _)), (h h2).2⟩⟩
theorem find_from {keys : List (List Int)} (H : Keys keys) (hn : keys.length ≤ 6000) (hd : keys.Nodup) : ∀ (m i : Nat), i + m = keys.length → Ev (fun k => hash_Right.l0 k keys (keys.length : Int) (i : Int) keys (layS keys)) true
  | 0, i, h => Ev.step (fun k => hash_Right.l0.eq_2 keys _ i keys _ k) (Ev.neg (by omega) (Ev.now _))
  | m + 1, i, h => by
    have hi : i < keys.length := by omega
    have hl := H.len
    refine Ev.step (fun k => hash_Right.l0.eq_2 keys _ i keys _ k) (Ev.pos (by omega) (Ev.pos (by omega) (Ev.pos (by omega) ?_)))
    rw [rdL_at hi]
    have hm : keys[i] ∈ keys := List.getElem_mem hi
    refine (find_ev H hn hd _ (H.row _ hm)).bind (Ev.pos ?_ ?_)
    · obtain ⟨j, hj, h1, h2⟩ := atI_some hm
      rw [h1, (List.getElem_inj hd).1 h2]
    · have h3 : wrap64 ((i : Int) + 1) = ((i + 1 : Nat) : Int) := by unfold Sh at hl; rw [w64 (by omega)]; rfl
      rw [h3]
      exact find_from H hn hd m (i + 1) (by omega)
theorem hright_ev {keys : List (List Int)} (H : Keys keys) (hn : keys.length ≤ 6000) (hd : keys.Nodup) : Ev (fun k => hash_Right.f k keys (layS keys)) true := by
  unfold hash_Right.f
  have hl := (layS_inv hn).2
  have hz := sizeN_spec hn
  refine (lay_ev H hn).bind ((equal_ev (by unfold Sh; omega)).bind (Ev.pos (by simp) ?_))
  exact find_from H hn hd keys.length 0 (by omega)
end Go.Proofs.Ytfjgfkokhnpbcaa.U
