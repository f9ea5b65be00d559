/- Plainly: rows of sides side by side; the first node that may not be. -/
import Derived.Test.YtgbickkmfjngbaaPf
namespace Go.Proofs.Ytgbickkmfjngbaa.K
open Go.RowKit Go.Proofs.YtgbickkmfjngbaaW.PrintWords Go.Proofs.YtgbickkmfjngbaaW.PrintLast Go.Proofs.YtgbickkmfjngbaaG.Words
set_option linter.unusedVariables false
set_option linter.unusedSimpArgs false

theorem allS_up {l : List S52} {e : List S38} (F : Fine e) : ∀ {i : Nat} {out : List Int} {x : Nat}, i ≤ e.length → i ≤ x + 1 → rd (allS l e i out) (x : Int) = rd out (x : Int)
  | 0, out, x, _, _ => rfl
  | i + 1, out, x, hi, hx => by
    rw [allS, allS_up F (by omega) (by omega), stg, wr_up F (by omega) (Nat.le_refl _) (by omega)]
theorem sides_last {l : List S52} {e : List S38} (F : Fine e) (a : Int) : rd (sides l e a) ((e.length : Int) - 1) = norm a := by
  have hp := F.pos
  rw [sides, show ((e.length : Int) - 1) = ((e.length - 1 : Nat) : Int) by omega, allS_up F (Nat.le_refl _) (by omega), init, rd_set_eq (by rw [List.length_replicate]; omega)]
/-- Two rows, stage by stage: what holds of the sides, and is kept by turning, holds everywhere. -/
theorem lock {l : List S52} {e : List S38} (F : Fine e) {R : Int → Int → Prop} (hR : ∀ s t v, R s t → R (tspec s v) (tspec t v)) : ∀ (i : Nat) (o1 o2 : List Int), i ≤ e.length → o1.length = e.length → o2.length = e.length →
    (∀ j, j < dep e i → R (rd o1 (endAt (St e) ((i : Int) - 1) j)) (rd o2 (endAt (St e) ((i : Int) - 1) j))) → (∀ x : Nat, i ≤ x → x < e.length → R (rd o1 (x : Int)) (rd o2 (x : Int))) → ∀ x : Nat, x < e.length → R (rd (allS l e i o1) (x : Int)) (rd (allS l e i o2) (x : Int))
  | 0, o1, o2, _, _, _, _, h, x, hx => h x (by omega) hx
  | i + 1, o1, o2, hi, h1, h2, ht, h, x, hx => by
    have hf := F.fit i hi
    have hcur : R (rd o1 (i : Int)) (rd o2 (i : Int)) := by
      have := ht 0 (by show 0 < dep e i + 1 - pN e i; omega)
      rwa [endAt, show ((i + 1 : Nat) : Int) - 1 = (i : Int) by omega] at this
    rw [allS, allS]
    refine lock F hR i _ _ (by omega) (by rw [stg_len]; exact h1) (by rw [stg_len]; exact h2) (fun j hj => ?_) (fun y hy hyl => ?_) x hx
    · have hc := St_ch F (i := i) (j := j) (by omega) hj
      by_cases hk : ∃ q, q < pN e i ∧ (kd e i q : Int) = endAt (St e) ((i : Int) - 1) j
      · obtain ⟨q, hq, hqe⟩ := hk
        rw [← hqe, stg, stg, wr_at F hi h1 (Nat.le_refl _) hq, wr_at F hi h2 (Nat.le_refl _) hq]
        exact hR _ _ _ hcur
      · have hjp : pN e i ≤ j := by
          rcases Nat.lt_or_ge j (pN e i) with h | h
          · exact absurd ⟨j, h, (kd_is F hi h).1.symm⟩ hk
          · exact h
        have hx : endAt (St e) ((i : Int) - 1) j = ((endAt (St e) ((i : Int) - 1) j).toNat : Int) := by omega
        have h3 := ht (j - pN e i + 1) (by show j - pN e i + 1 < dep e i + 1 - pN e i; omega)
        rw [← end_up F hi hjp (by omega)] at h3
        rw [hx] at h3 ⊢
        rw [stg, stg, wr_else (fun q hq h => hk ⟨q, hq, by omega⟩), wr_else (fun q hq h => hk ⟨q, hq, by omega⟩)]
        exact h3
    · rw [stg, stg, wr_up F hi (Nat.le_refl _) hy, wr_up F hi (Nat.le_refl _) hy]
      by_cases e1 : y = i
      · rw [e1]; exact hcur
      · exact h y (by omega) hyl
theorem sides_rel {l : List S52} {e : List S38} (F : Fine e) {R : Int → Int → Prop} (hR : ∀ s t v, R s t → R (tspec s v) (tspec t v)) {a b : Int} (h : R (norm a) (norm b)) {x : Nat} (hx : x < e.length) : R (rd (sides l e a) (x : Int)) (rd (sides l e b) (x : Int)) := by
  have hp := F.pos
  have hi : ∀ c, rd (init e c) ((e.length - 1 : Nat) : Int) = norm c := fun c => by rw [init, rd_set_eq (by rw [List.length_replicate]; omega)]
  refine lock F hR e.length _ _ (Nat.le_refl _) (by rw [init, List.length_set, List.length_replicate]) (by rw [init, List.length_set, List.length_replicate]) (fun j hj => ?_) (fun y hy hyl => absurd hyl (by omega)) x hx
  rw [F.one] at hj
  obtain rfl : j = 0 := by omega
  rw [endAt, show ((e.length : Int) - 1) = ((e.length - 1 : Nat) : Int) by omega, hi, hi]
  exact h
theorem sides_good {l : List S52} {e : List S38} (F : Fine e) (a : Int) {x : Nat} (hx : x < e.length) : G3 (rd (sides l e a) (x : Int)) :=
  sides_rel F (R := fun s _ => G3 s) (fun s t v h => tspec_good h) (b := a) (norm_good a) hx
theorem sides_both {l : List S52} {e : List S38} (F : Fine e) {x : Nat} (hx : x < e.length) : rd (sides l e 66) (x : Int) = 66 :=
  sides_rel F (R := fun s _ => s = 66) (fun s t v h => by subst h; unfold tspec; split <;> (try split) <;> rfl) (a := 66) (b := 66) rfl hx
theorem chk_cases {l : List S52} {e : List S38} {o : List Int} : ∀ (m i : Nat), ((∀ j, i ≤ j → j < i + m → wspec l (rd_T38 e (j : Int)) (rd o (j : Int)) = 0) ∧ chk l e o m i = (0, 0)) ∨
    ∃ q, i ≤ q ∧ q < i + m ∧ (∀ j, i ≤ j → j < q → wspec l (rd_T38 e (j : Int)) (rd o (j : Int)) = 0) ∧ wspec l (rd_T38 e (q : Int)) (rd o (q : Int)) ≠ 0 ∧ chk l e o m i = ((q : Int), wspec l (rd_T38 e (q : Int)) (rd o (q : Int)))
  | 0, i => .inl ⟨fun j h1 h2 => absurd h2 (by omega), rfl⟩
  | m + 1, i => by
    rw [chk]
    by_cases h : wspec l (rd_T38 e (i : Int)) (rd o (i : Int)) = 0
    · rw [if_pos h]
      rcases chk_cases (l := l) (e := e) (o := o) m (i + 1) with ⟨ha, hc⟩ | ⟨q, h1, h2, ha, hq, hc⟩
      · refine .inl ⟨fun j hj1 hj2 => ?_, hc⟩
        by_cases e1 : j = i
        · rw [e1]; exact h
        · exact ha j (by omega) (by omega)
      · refine .inr ⟨q, by omega, by omega, fun j hj1 hj2 => ?_, hq, hc⟩
        by_cases e1 : j = i
        · rw [e1]; exact h
        · exact ha j (by omega) (by omega)
    · rw [if_neg h]
      exact .inr ⟨i, Nat.le_refl _, by omega, fun j h1 h2 => absurd h2 (by omega), h, rfl⟩
theorem chk_ok {l : List S52} {e : List S38} {o : List Int} {m i : Nat} (h : ∀ j, i ≤ j → j < i + m → wspec l (rd_T38 e (j : Int)) (rd o (j : Int)) = 0) : chk l e o m i = (0, 0) := by
  rcases chk_cases (l := l) (e := e) (o := o) m i with h1 | ⟨q, h1, h2, _, hq, _⟩
  · exact h1.2
  · exact absurd (h q h1 h2) hq
theorem chk_all {l : List S52} {e : List S38} {o : List Int} {m i : Nat} (h : (chk l e o m i).2 = 0) : ∀ j, i ≤ j → j < i + m → wspec l (rd_T38 e (j : Int)) (rd o (j : Int)) = 0 := by
  rcases chk_cases (l := l) (e := e) (o := o) m i with h1 | ⟨q, h1, h2, _, hq, hc⟩
  · exact h1.1
  · rw [hc] at h; exact absurd h hq
end Go.Proofs.Ytgbickkmfjngbaa.K
