/- Plainly: tables that are short; stores that are right; rows that are the same. -/
import Derived.Test.YtiliknfmlmdmbaaPb
import Derived.Test.YtiliknfmlmdmbaaHh
import Derived.Test.YtiliknfmlmdmbaaTx0
import Derived.Test.YtiliknfmlmdmbaaTx6
import Derived.Test.YtiliknfmlmdmbaaTx9
import Derived.Test.YtiliknfmlmdmbaaTx11
import Derived.Test.YtiliknfmlmdmbaaTx13
namespace Go.Proofs.Ytiliknfmlmdmbaa.T
open Go.RowKit Go.Proofs.YtiliknfmlmdmbaaW.PrintWords Go.Proofs.YtiliknfmlmdmbaaW.PrintLast Go.Proofs.YtiliknfmlmdmbaaW.PrintMore
set_option linter.unusedVariables false
set_option linter.unusedSimpArgs false

/-! ### Short tables -/
def sumL : List (List Int) → Nat
  | [] => 0
  | q :: qs => 1 + q.length + sumL qs
theorem few_from {keys : List (List Int)} {slots : List Int} (H : Keys keys) : ∀ (m i : Nat) (x : Nat), i + m = keys.length → x ≤ 140737488355328 → ∃ b, Ev (fun k => tammyref02_Few.l0 k (x : Int) (i : Int) keys slots) b ∧ (b = true → x + sumL (keys.drop i) ≤ 2000)
  | 0, i, x, h, hx => by
    refine ⟨decide ((x : Int) ≤ 2000), Ev.step (fun k => tammyref02_Few.l0.eq_2 _ i keys slots k) (Ev.neg (by omega) (Ev.now _)), fun hb => ?_⟩
    rw [List.drop_of_length_le (by omega)]
    have := of_decide_eq_true hb
    simp only [sumL]; omega
  | m + 1, i, x, h, hx => by
    have hi : i < keys.length := by omega
    have hl := H.len
    have hr := H.row _ (List.getElem_mem hi)
    by_cases e : (x : Int) ≤ 2000
    · obtain ⟨b, hb, hs⟩ := few_from (slots := slots) H m (i + 1) (x + 1 + keys[i].length) (by omega) (by unfold Sh at hr; omega)
      refine ⟨b, Ev.step (fun k => tammyref02_Few.l0.eq_2 _ i keys slots k) (Ev.pos (by omega) (Ev.pos e (Ev.pos (by omega) ?_))), fun h2 => ?_⟩
      · rw [rdL_at hi]
        have h1 : wrap64 ((x : Int) + 1) = ((x + 1 : Nat) : Int) := by rw [w64 (by omega)]; rfl
        have h2 : wrap64 (((x + 1 : Nat) : Int) + (keys[i].length : Int)) = ((x + 1 + keys[i].length : Nat) : Int) := by unfold Sh at hr; rw [w64 (by omega)]; omega
        have h3 : wrap64 ((i : Int) + 1) = ((i + 1 : Nat) : Int) := by unfold Sh at hl; rw [w64 (by omega)]; rfl
        rw [h1, h2, h3]
        exact hb
      · rw [drop_at hi, sumL]
        have := hs h2
        omega
    · exact ⟨_, Ev.step (fun k => tammyref02_Few.l0.eq_2 _ i keys slots k) (Ev.pos (by omega) (Ev.neg e (Ev.now _))), fun hb => absurd (of_decide_eq_true hb) e⟩
theorem sumL_len : ∀ (keys : List (List Int)), keys.length ≤ sumL keys
  | [] => Nat.le_refl _
  | q :: qs => by have := sumL_len qs; simp only [sumL, List.length_cons]; omega
theorem sumL_row : ∀ {keys : List (List Int)} {q : List Int}, q ∈ keys → q.length ≤ sumL keys
  | p :: ps, q, h => by
    rcases List.mem_cons.1 h with rfl | h
    · simp only [sumL]; omega
    · have := sumL_row h; simp only [sumL]; omega
theorem few_ev {keys : List (List Int)} {slots : List Int} (H : Keys keys) (hs : Sh slots) : ∃ b, Ev (fun k => tammyref02_Few.f k keys slots) b ∧ (b = true → slots.length + sumL keys ≤ 2000) := by
  unfold Sh at hs
  exact few_from H keys.length 0 slots.length (by omega) (by omega)

/-! ### Tables that are right -/
theorem right_from {keys : List (List Int)} {slots : List Int} (H : Keys keys) (hn : keys.length ≤ 6000) (hs : Sh slots) : ∀ (m i : Nat), i + m = keys.length → ∃ b, Ev (fun k => tammyref02_Right.l0 k (i : Int) keys slots) b ∧ (b = true → (∀ (j : Nat) (hj : j < keys.length), i ≤ j → atI keys[j] keys 0 = j) ∧ slots = layS keys)
  | 0, i, h => by
    refine ⟨decide (slots = layS keys), Ev.step (fun k => tammyref02_Right.l0.eq_2 i keys slots k) (Ev.neg (by omega) ((rlay_ev H hn).bind ((ints_ev hs).bind (Ev.now _)))), fun hb => ⟨fun j hj hij => absurd hij (by omega), of_decide_eq_true hb⟩⟩
  | m + 1, i, h => by
    have hi : i < keys.length := by omega
    have hl := H.len
    by_cases e : atI keys[i] keys 0 = i
    · obtain ⟨b, hb, hr⟩ := right_from H hn hs m (i + 1) (by omega)
      refine ⟨b, Ev.step (fun k => tammyref02_Right.l0.eq_2 i keys slots k) (Ev.pos (by omega) (Ev.pos (by omega) ?_)), fun h2 => ⟨fun j hj hij => ?_, (hr h2).2⟩⟩
      · rw [rdL_at hi]
        refine (at_ev H _).bind (Ev.pos e ?_)
        have h3 : wrap64 ((i : Int) + 1) = ((i + 1 : Nat) : Int) := by unfold Sh at hl; rw [w64 (by omega)]; rfl
        rw [h3]
        exact hb
      · by_cases e2 : j = i
        · subst e2; exact e
        · exact (hr h2).1 j hj (by omega)
    · refine ⟨false, Ev.step (fun k => tammyref02_Right.l0.eq_2 i keys slots k) (Ev.pos (by omega) (Ev.pos (by omega) ?_)), fun h => by cases h⟩
      rw [rdL_at hi]
      exact (at_ev H _).bind (Ev.neg e (Ev.now _))
theorem nodup_of_at {keys : List (List Int)} (h : ∀ (j : Nat) (hj : j < keys.length), atI keys[j] keys 0 = j) : keys.Nodup := by
  rw [List.Nodup, List.pairwise_iff_getElem]
  intro i j hi hj hij e
  have h1 := h i hi
  rw [e, h j hj] at h1
  omega
theorem rright_ev {keys : List (List Int)} {slots : List Int} (H : Keys keys) (hn : keys.length ≤ 6000) (hs : Sh slots) : ∃ b, Ev (fun k => tammyref02_Right.f k keys slots) b ∧ (b = true → keys.Nodup ∧ slots = layS keys) := by
  obtain ⟨b, hb, h⟩ := right_from H hn hs keys.length 0 (by omega)
  exact ⟨b, hb, fun h2 => ⟨nodup_of_at (fun j hj => (h h2).1 j hj (Nat.zero_le _)), (h h2).2⟩⟩
theorem find_from {keys : List (List Int)} (H : Keys keys) (hn : keys.length ≤ 6000) (hd : keys.Nodup) : ∀ (m i : Nat), i + m = keys.length → Ev (fun k => hash_Right.l0 k keys (keys.length : Int) (i : Int) keys (layS keys)) true
  | 0, i, h => Ev.step (fun k => hash_Right.l0.eq_2 keys _ i keys _ k) (Ev.neg (by omega) (Ev.now _))
  | m + 1, i, h => by
    have hi : i < keys.length := by omega
    have hl := H.len
    refine Ev.step (fun k => hash_Right.l0.eq_2 keys _ i keys _ k) (Ev.pos (by omega) (Ev.pos (by omega) (Ev.pos (by omega) ?_)))
    rw [rdL_at hi]
    have hm : keys[i] ∈ keys := List.getElem_mem hi
    refine (find_ev H hn hd _ (H.row _ hm)).bind (Ev.pos ?_ ?_)
    · obtain ⟨j, hj, h1, h2⟩ := atI_some hm
      rw [h1, (List.getElem_inj hd).1 h2]
    · have h3 : wrap64 ((i : Int) + 1) = ((i + 1 : Nat) : Int) := by unfold Sh at hl; rw [w64 (by omega)]; rfl
      rw [h3]
      exact find_from H hn hd m (i + 1) (by omega)
theorem hright_ev {keys : List (List Int)} (H : Keys keys) (hn : keys.length ≤ 6000) (hd : keys.Nodup) : Ev (fun k => hash_Right.f k keys (layS keys)) true := by
  unfold hash_Right.f
  have hl := (layS_inv hn).2
  have hz := sizeN_spec hn
  refine (lay_ev H hn).bind ((equal_ev (by unfold Sh; omega)).bind (Ev.pos (by simp) ?_))
  exact find_from H hn hd keys.length 0 (by omega)

/-! ### Stores that are right -/
/-- The parts of the term at a place. -/
def partsI (keys : List (List Int)) (i : Nat) : List Int := (keys.getD i []).drop 3
theorem partsI_at {keys : List (List Int)} {i : Nat} (hi : i < keys.length) : partsI keys i = keys[i].drop 3 := by simp [partsI, List.getD_eq_getElem?_getD, hi]
structure Store (l : List S62) (keys : List (List Int)) : Prop where
  K : Keys keys
  few : sumL keys ≤ 2000
  nodup : keys.Nodup
  two : 2 ≤ keys.length
  long : ∀ (i : Nat) (hi : i < keys.length), 3 ≤ keys[i].length
  parts : ∀ (i : Nat), i < keys.length → ∀ x ∈ partsI keys i, 0 ≤ x ∧ x < i
theorem Store.len {l : List S62} {keys : List (List Int)} (S : Store l keys) : keys.length ≤ 2000 := Nat.le_trans (sumL_len keys) S.few
theorem rof_at {keys : List (List Int)} {slots : List Int} {i : Nat} (hi : i < keys.length) (h3 : 3 ≤ keys[i].length) : tammyref03_Of.f keys slots (i : Int) = some (rd keys[i] 0, rd keys[i] 1, rd keys[i] 2, keys[i].drop 3, true) := by
  unfold tammyref03_Of.f
  rw [if_neg (by omega), if_neg (by omega), rdL_at hi, if_neg (by omega)]
theorem rof_short {keys : List (List Int)} {slots : List Int} {i : Nat} (hi : i < keys.length) (h3 : ¬ 3 ≤ keys[i].length) : tammyref03_Of.f keys slots (i : Int) = some (0, 0, 0, [], false) := by
  unfold tammyref03_Of.f
  rw [if_neg (by omega), if_neg (by omega), rdL_at hi, if_pos (by omega)]
theorem store_from (l : List S62) {keys : List (List Int)} {slots : List Int} (H : Keys keys) : ∀ (m i : Nat), i + m = keys.length → ∃ b, Ev (fun k => tammyref03_Right.l0 k l (i : Int) keys slots) b ∧ (b = true → ∀ (j : Nat) (hj : j < keys.length), i ≤ j → 3 ≤ keys[j].length ∧ ∀ x ∈ keys[j].drop 3, 0 ≤ x ∧ x < j)
  | 0, i, h => ⟨true, Ev.step (fun k => tammyref03_Right.l0.eq_2 l i keys slots k) (Ev.neg (by omega) (Ev.now _)), fun _ j hj hij => absurd hij (by omega)⟩
  | m + 1, i, h => by
    have hi : i < keys.length := by omega
    have hl := H.len
    have hw : wrap64 ((i : Int) + 1) = ((i + 1 : Nat) : Int) := by unfold Sh at hl; rw [w64 (by omega)]; rfl
    by_cases h3 : 3 ≤ keys[i].length
    · have hargs : Sh (keys[i].drop 3) := by have := H.row _ (List.getElem_mem hi); unfold Sh at *; rw [List.length_drop]; omega
      have hmay := rmay_ev l (i : Int) (rd keys[i] 0) (rd keys[i] 1) (rd keys[i] 2) hargs
      obtain ⟨b, hb, hr⟩ := store_from l (slots := slots) H m (i + 1) (by omega)
      have base : ∀ {g : Nat → Option Bool} {r : Bool}, Ev (fun k => if mayS l i (rd keys[i] 0) (rd keys[i] 1) (rd keys[i] 2) (keys[i].drop 3) = true then g k else some false) r → (g = fun k => if (i : Int) < 2 then (if rd keys[i] 0 = (i : Int) then tammyref03_Right.l0 k l ((i + 1 : Nat) : Int) keys slots else some false) else tammyref03_Right.l0 k l ((i + 1 : Nat) : Int) keys slots) → Ev (fun k => tammyref03_Right.l0 k l (i : Int) keys slots) r := by
        intro g r hg hge
        subst hge
        refine Ev.step (fun k => tammyref03_Right.l0.eq_2 l i keys slots k) (Ev.pos (by omega) ?_)
        rw [rof_at hi h3]
        simp only [Option.bind_some, if_true]
        refine hmay.bind ?_
        rw [hw]
        exact hg
      by_cases e : mayS l i (rd keys[i] 0) (rd keys[i] 1) (rd keys[i] 2) (keys[i].drop 3) = true
      · have hpar : ∀ x ∈ keys[i].drop 3, 0 ≤ x ∧ x < (i : Int) := by
          rw [mayS_eq] at e
          by_cases q : ∀ x ∈ keys[i].drop 3, 0 ≤ x ∧ x < (i : Int)
          · exact q
          · rw [if_neg q] at e; cases e
        have fin : b = true → ∀ (j : Nat) (hj : j < keys.length), i ≤ j → 3 ≤ keys[j].length ∧ ∀ x ∈ keys[j].drop 3, 0 ≤ x ∧ x < j := fun h2 j hj hij => by
          by_cases e2 : j = i
          · subst e2; exact ⟨h3, hpar⟩
          · exact hr h2 j hj (by omega)
        by_cases h2 : (i : Int) < 2
        · by_cases h4 : rd keys[i] 0 = (i : Int)
          · exact ⟨b, base (Ev.pos e (Ev.pos h2 (Ev.pos h4 hb))) rfl, fin⟩
          · exact ⟨false, base (Ev.pos e (Ev.pos h2 (Ev.neg h4 (Ev.now _)))) rfl, fun h => by cases h⟩
        · exact ⟨b, base (Ev.pos e (Ev.neg h2 hb)) rfl, fin⟩
      · exact ⟨false, base (Ev.neg e (Ev.now _)) rfl, fun h => by cases h⟩
    · refine ⟨false, Ev.step (fun k => tammyref03_Right.l0.eq_2 l i keys slots k) (Ev.pos (by omega) ?_), fun h => by cases h⟩
      rw [rof_short hi h3]
      exact Ev.now _
theorem of_ev (l : List S62) (hl : l.length ≤ 9223372036854775807) (hs : ∀ x ∈ l, x.f1.size ≤ 9223372036854775807) {keys : List (List Int)} {slots : List Int} (H : Keys keys) (hsl : Sh slots) :
    ∃ b, Ev (fun k => tammylaw03_of.f k l keys slots) b ∧ (b = true → Store l keys ∧ slots = layS keys) := by
  unfold tammylaw03_of.f
  refine Ev.ite (fun _ => ?_) (fun _ => Ev.exNow _ (fun h => by cases h))
  obtain ⟨b1, e1, _⟩ := sigRight_all l hl hs
  refine Ev.exBind e1 (Ev.ite (fun _ => ?_) (fun _ => Ev.exNow _ (fun h => by cases h)))
  obtain ⟨b2, e2, h2⟩ := few_ev H hsl
  refine Ev.exBind e2 (Ev.ite (fun hb2 => ?_) (fun _ => Ev.exNow _ (fun h => by cases h)))
  have hfew := h2 hb2
  have hlen := sumL_len keys
  obtain ⟨b3, e3, h3⟩ := rright_ev H (by omega) hsl
  have : ∃ r, Ev (fun k => tammyref03_Right.f k l keys slots) r ∧ (r = true → Store l keys ∧ slots = layS keys) := by
    unfold tammyref03_Right.f
    refine Ev.exBind e3 (Ev.ite (fun hb3 => ?_) (fun _ => ?_))
    · refine Ev.exStep (fun k => tammyref03_Right.j0.eq_2 l _ keys slots k) (Ev.ite (fun _ => Ev.exNow _ (fun h => by cases h)) (fun htwo => ?_))
      obtain ⟨b4, e4, h4⟩ := store_from l (slots := slots) H keys.length 0 (by omega)
      refine ⟨b4, e4, fun hb4 => ⟨⟨H, by omega, (h3 hb3).1, ?_, fun i hi => (h4 hb4 i hi (Nat.zero_le _)).1, fun i hi => ?_⟩, (h3 hb3).2⟩⟩
      · have : ¬ ((keys.length : Int) < 2) := fun h => htwo (decide_eq_true h)
        omega
      · rw [partsI_at hi]; exact (h4 hb4 i hi (Nat.zero_le _)).2
    · exact Ev.exStep (fun k => tammyref03_Right.j0.eq_2 l true keys slots k) (Ev.ite (fun _ => Ev.exNow _ (fun h => by cases h)) (fun h => absurd rfl h))
  obtain ⟨r, er, hr⟩ := this
  exact ⟨r, er.bind (Ev.now _), hr⟩
end Go.Proofs.Ytiliknfmlmdmbaa.T
