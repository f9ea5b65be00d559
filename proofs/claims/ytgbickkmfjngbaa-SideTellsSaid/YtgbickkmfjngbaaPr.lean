/- Plainly: the reference's sides and checks are the same. -/
import Derived.Test.YtgbickkmfjngbaaPf
import Derived.Test.YtgbickkmfjngbaaKx11
import Derived.Test.YtgbickkmfjngbaaKx12
import Derived.Test.YtgbickkmfjngbaaKx13
namespace Go.Proofs.Ytgbickkmfjngbaa.K
open Go.RowKit Go.Proofs.YtgbickkmfjngbaaW.PrintWords Go.Proofs.YtgbickkmfjngbaaW.PrintLast Go.Proofs.YtgbickkmfjngbaaG.Words
set_option linter.unusedVariables false
set_option linter.unusedSimpArgs false

theorem Turn_is {s v : Int} (h : G3 s) : Ev (fun k => tammyref08_Turn.f k s v) (tspec s v) := by
  unfold tammyref08_Turn.f tspec G3 at *
  by_cases h1 : v = 43
  · rw [if_pos h1]; exact Ev.pos h1 (Ev.now _)
  · rw [if_neg h1]
    refine Ev.neg h1 ?_
    by_cases h2 : v = 45
    · rw [if_pos h2]
      refine Ev.pos h2 (Ev.step (fun k => tammyref08_Turn.j0.eq_2 _ _ _ k) ?_)
      rcases h with rfl | rfl | rfl
      · exact Ev.pos rfl (Ev.now _)
      · exact Ev.neg (by decide) (Ev.pos h2 (Ev.pos rfl (Ev.now _)))
      · exact Ev.neg (by decide) (Ev.pos h2 (Ev.neg (by decide) (Ev.now _)))
    · rw [if_neg h2]
      exact Ev.neg h2 (Ev.step (fun k => tammyref08_Turn.j0.eq_2 _ _ _ k) (Ev.neg (by decide) (Ev.neg h2 (Ev.now _))))

/-! ### The reference's -/
theorem Known_is {l : List S52} (hl : l.length ≤ 64) (x : S38) : Ev (fun k => tammyref08_Known.f k l x.f0 x.f1 x.f2) (if findI x.f1 l 0 < 0 then false else if x.f0 = 3 then ((argsOf l x).size : Int) == x.f2 else decide (((argsOf l x).size : Int) ≥ x.f2)) := by
  have hin := findI_in x.f1 l 0
  unfold tammyref08_Known.f
  refine Ev.bind (Find_is l x.f1 (by omega)) ?_
  by_cases hn : findI x.f1 l 0 < 0
  · simp only [if_pos hn]; exact Ev.now _
  · simp only [if_neg hn]
    by_cases h3 : x.f0 = 3
    · simp only [if_pos h3]; exact Ev.pos (by omega) (Ev.pos (by omega) (Ev.now _))
    · simp only [if_neg h3]; exact Ev.pos (by omega) (Ev.pos (by omega) (Ev.now _))
theorem vary_is {l : List S52} (hl : l.length ≤ 64) {e : List S38} {i : Nat} (hM : May (rd_T38 e (i : Int))) {k : Nat} (hk : k < pN e i) : Ev (fun n => tammyref08_vary.f n l (rd_T38 e (i : Int)).f0 (rd_T38 e (i : Int)).f1 (rd_T38 e (i : Int)).f2 (k : Int)) (vspec l (rd_T38 e (i : Int)) (k : Int)) := by
  have hp := rdN e i
  revert hM hp
  generalize rd_T38 e (i : Int) = x
  intro hM hp
  have hin := findI_in x.f1 l 0
  unfold tammyref08_vary.f vspec
  by_cases h4 : x.f0 = 4
  · rw [if_pos (.inl h4)]
    exact Ev.pos h4 (Ev.step (fun n => tammyref08_vary.j0.eq_2 _ _ _ _ _ _ n) (Ev.pos rfl (Ev.now _)))
  refine Ev.neg h4 (Ev.step (fun n => tammyref08_vary.j0.eq_2 _ _ _ _ _ _ n) ?_)
  by_cases h5 : x.f0 = 5
  · rw [if_pos (.inr h5)]
    exact Ev.pos (by simp [h5]) (Ev.now _)
  rw [if_neg (by omega)]
  refine Ev.neg (by simp [h5]) (Ev.bind (Known_is hl x) ?_)
  by_cases hn : findI x.f1 l 0 < 0
  · rw [if_pos hn, if_pos hn]; exact Ev.neg (by simp) (Ev.now _)
  rw [if_neg hn, if_neg hn]
  by_cases h3 : x.f0 = 3
  · rw [if_neg (show ¬ x.f0 = 6 by omega)] at hp
    rw [if_pos h3, if_pos h3]
    by_cases hs : ((argsOf l x).size : Int) = x.f2
    · rw [if_pos hs]
      refine Ev.pos (by simp [hs]) (Ev.bind (Find_is l x.f1 (by omega)) (Ev.pos (by omega) (Ev.pos (by omega) (Ev.neg (by omega) (Ev.pos (by omega) (Ev.pos ?_ (Ev.now _)))))))
      show (k : Int) < ((argsOf l x).size : Int)
      have := hM.2
      omega
    · rw [if_neg hs]; exact Ev.neg (by simp [hs]) (Ev.now _)
  · rw [if_neg h3, if_neg h3]
    have h6 : x.f0 = 6 := by
      by_cases h6 : x.f0 = 6
      · exact h6
      · rw [if_neg h6] at hp; have := hM.2; omega
    have hN : 1 ≤ x.f2 ∧ x.f2 ≤ 8 := by have := hM.2; omega
    by_cases hs : x.f2 ≤ ((argsOf l x).size : Int)
    · rw [if_pos hs]
      refine Ev.pos (decide_eq_true hs) (Ev.bind (Find_is l x.f1 (by omega)) (Ev.pos (by omega) (Ev.pos (by omega) (Ev.pos h6 ?_))))
      rw [w64 (n := x.f2 - 1) (by omega)]
      refine Ev.pos (by omega) (Ev.pos ?_ (Ev.now _))
      show x.f2 - 1 < ((argsOf l x).size : Int)
      omega
    · rw [if_neg hs]; exact Ev.neg (by simp; omega) (Ev.now _)
/-- What the reference has written, k parts from the first on. -/
structure Wr (l : List S52) (e : List S38) (i : Nat) (out : List Int) (k : Nat) (o : List Int) : Prop where
  len : o.length = out.length
  at_ : ∀ j, j < pN e i → pN e i ≤ j + k → rd o (kd e i j : Int) = tspec (rd out i) (vspec l (rd_T38 e (i : Int)) (pN e i - 1 - j : Nat))
  else_ : ∀ x : Nat, (∀ j, j < pN e i → kd e i j ≠ x) → rd o (x : Int) = rd out (x : Int)
theorem Wr.all {l : List S52} {e : List S38} (F : Fine e) {i : Nat} (hi : i < e.length) {out o : List Int} (hl : out.length = e.length) (W : Wr l e i out (pN e i) o) : o = stg l e i out := by
  refine rd_ext (by rw [stg_len]; exact W.len) (fun x hx => ?_)
  by_cases hk : ∃ j, j < pN e i ∧ kd e i j = x
  · obtain ⟨j, hj, rfl⟩ := hk
    rw [W.at_ j hj (by omega), stg, wr_at F hi hl (Nat.le_refl _) hj]
  · rw [W.else_ x (fun j hj h => hk ⟨j, hj, h⟩), stg, wr_else (fun j hj h => hk ⟨j, hj, h⟩)]
theorem refOf_l1 {l : List S52} (hl : l.length ≤ 64) {e : List S38} (F : Fine e) (a : Int) {i : Nat} (hi : i < e.length) {out : List Int} (T : Top e (i + 1) out) {r : List Int}
    (K : Ev (fun k => tammyref08_Of.l0 k l e a (St e) (stg l e i out) ((i : Int) - 1)) r) : ∀ (m k : Nat) (o : List Int), k + m = pN e i → Wr l e i out k o → Ev (fun n => tammyref08_Of.l1 n l e a (St e) o (i : Int) (kids e i) (k : Int)) r
  | m, k, o, hm, W => by
    have hn := F.len
    have hTl := T.len
    have hWl := W.len
    refine Ev.step (fun n => tammyref08_Of.l1.eq_2 _ _ _ _ _ _ _ _ n) ?_
    rw [kids_len]
    cases m with
    | zero =>
      refine Ev.neg (by omega) ?_
      rw [show k = pN e i by omega] at W
      rw [W.all F hi T.len, w64 (n := (i : Int) - 1) (by omega)]
      exact K
    | succ m =>
      have hi2 : rd o (i : Int) = rd out (i : Int) := W.else_ i (fun j hj => by have := kd_is F hi hj; omega)
      have hkid := kids_at F hi (j := k) (by omega)
      have kk := kd_is F hi (j := pN e i - 1 - k) (by omega)
      have hp8 := (F.may i hi).parts.2.2
      refine Ev.pos (by omega) (Ev.pos (by omega) (Ev.pos (by omega) (Ev.pos (by omega) (Ev.pos (by omega) (Ev.bind (vary_is hl (F.may i hi) (k := k) (by omega)) ?_)))))
      rw [hi2, hkid]
      refine Ev.bind (Turn_is (T.at_ F hi)) (Ev.pos (by omega) (Ev.pos (by omega) ?_))
      rw [w64 (n := (k : Int) + 1) (by omega), Int.toNat_natCast]
      refine refOf_l1 hl F a hi T K m (k + 1) _ (by omega) ⟨by rw [List.length_set]; exact hWl, fun j hj hjk => ?_, fun x hx => ?_⟩
      · by_cases e1 : j = pN e i - 1 - k
        · rw [e1, rd_set_eq (by omega), show pN e i - 1 - (pN e i - 1 - k) = k by omega]
        · have hne := kd_inj F hi (a := pN e i - 1 - k) (b := j) (by omega) hj
          rw [rd_set_ne (by omega)]
          exact W.at_ j hj (by omega)
      · rw [rd_set_ne (hx _ (by omega))]; exact W.else_ x hx
theorem refOf_j1 {l : List S52} (hl : l.length ≤ 64) {e : List S38} (F : Fine e) (a : Int) {i : Nat} (hi : i < e.length) {out : List Int} (T : Top e (i + 1) out) {r : List Int}
    (K : Ev (fun k => tammyref08_Of.l0 k l e a (St e) (stg l e i out) ((i : Int) - 1)) r) : Ev (fun k => tammyref08_Of.j1 k l e a (St e) out (i : Int)) r := by
  refine Ev.step (fun n => tammyref08_Of.j1.eq_2 _ _ _ _ _ _ n) (Ev.bind (Kids_is F hi) ?_)
  exact refOf_l1 hl F a hi T K (pN e i) 0 out (by omega) ⟨rfl, fun j hj hjk => absurd hj (by omega), fun x _ => rfl⟩
theorem refOf_l0 {l : List S52} (hl : l.length ≤ 64) {e : List S38} (F : Fine e) (a : Int) : ∀ (i : Nat) (out : List Int), i < e.length → Top e i out → Ev (fun k => tammyref08_Of.l0 k l e a (St e) out ((i : Int) - 1)) (allS l e i out)
  | 0, out, _, _ => Ev.step (fun n => tammyref08_Of.l0.eq_2 _ _ _ _ _ _ n) (Ev.neg (by omega) (Ev.now _))
  | i + 1, out, hi, T => by
    have hn := F.len
    refine Ev.step (fun n => tammyref08_Of.l0.eq_2 _ _ _ _ _ _ n) ?_
    rw [show (((i + 1 : Nat) : Int) - 1) = (i : Int) by omega, w64 (n := (e.length : Int) - 1) (by omega)]
    refine Ev.pos (by omega) (Ev.neg (by omega) ?_)
    rw [allS]
    exact refOf_j1 hl F a (by omega) T (refOf_l0 hl F a i _ (by omega) (T.stg F (by omega)))
theorem refOf_is {l : List S52} (hl : l.length ≤ 64) {e : List S38} (F : Fine e) (a : Int) : Ev (fun k => tammyref08_Of.f k l e a) (sides l e a) := by
  have hn := F.len
  have hp := F.pos
  unfold tammyref08_Of.f
  refine Ev.bind (Starts_is F) (Ev.pos (by omega) (Ev.pos (by omega) ?_))
  obtain ⟨m, hm⟩ : ∃ m, e.length = m + 1 := ⟨e.length - 1, by omega⟩
  rw [w64 (n := (e.length : Int) - 1) (by omega), Int.toNat_natCast]
  have hm1 : (e.length : Int) - 1 = (m : Int) := by omega
  have T := Top.init F a
  refine Ev.step (fun n => tammyref08_Of.l0.eq_2 _ _ _ _ _ _ n) ?_
  rw [hm1, w64 (n := (m : Int)) (by omega)]
  refine Ev.pos (by omega) (Ev.pos rfl (Ev.pos (by omega) (Ev.pos (by rw [List.length_replicate]; omega) ?_)))
  have K : Ev (fun k => tammyref08_Of.j1 k l e a (St e) (init e a) (m : Int)) (sides l e a) := by
    rw [sides, hm, allS]
    refine refOf_j1 hl F a (by omega) (by rw [← hm]; exact T) ?_
    exact refOf_l0 hl F a m _ (by omega) (Top.stg F (by omega) (by rw [← hm]; exact T))
  rw [init, norm, show e.length - 1 = m by omega] at K
  refine Ev.pure rfl ?_
  rw [Int.toNat_natCast, List.set_set]
  by_cases h1 : a = 76
  · rw [if_pos h1] at K; refine Ev.pos h1 ?_; rw [h1] at K ⊢; exact K
  · rw [if_neg h1] at K
    refine Ev.neg h1 ?_
    by_cases h2 : a = 82
    · rw [if_pos h2] at K; refine Ev.pos h2 ?_; rw [h2] at K ⊢; exact K
    · rw [if_neg h2] at K; exact Ev.neg h2 K
theorem refCheck_l0 {l : List S52} (hl : l.length ≤ 64) {e : List S38} (F : Fine e) {o : List Int} (ho : o.length = e.length) : ∀ (m i : Nat), i + m = e.length → Ev (fun k => tammyref08_Check.l0 k l e o (i : Int)) (chk l e o m i)
  | m, i, hm => by
    have hn := F.len
    refine Ev.step (fun k => tammyref08_Check.l0.eq_2 _ _ _ _ k) ?_
    cases m with
    | zero => exact Ev.neg (by omega) (Ev.now _)
    | succ m =>
      have ih := refCheck_l0 hl F ho m (i + 1) (by omega)
      have hM := (F.may i (by omega)).2
      have hw : wrap64 ((i : Int) + 1) = ((i + 1 : Nat) : Int) := by rw [w64 (by omega)]; omega
      refine Ev.pos (by omega) (Ev.pos (by omega) ?_)
      rw [chk]
      have J : ∀ b : Bool, (b = true ↔ (rd_T38 e (i : Int)).f0 = 3 ∨ (rd_T38 e (i : Int)).f0 = 6) → Ev (fun k => tammyref08_Check.j1 k l e o (i : Int) b (rd_T38 e (i : Int)).f0 (rd_T38 e (i : Int)).f1 (rd_T38 e (i : Int)).f2) (if wspec l (rd_T38 e (i : Int)) (rd o (i : Int)) = 0 then chk l e o m (i + 1) else ((i : Int), wspec l (rd_T38 e (i : Int)) (rd o (i : Int)))) := fun b hb => by
        refine Ev.step (fun k => tammyref08_Check.j1.eq_2 _ _ _ _ _ _ _ _ k) ?_
        rw [hw]
        have L0 : 0 ≤ (i : Int) := by omega
        have L1 : (i : Int) < (o.length : Int) := by omega
        have fin0 : wspec l (rd_T38 e (i : Int)) (rd o (i : Int)) = 0 → Ev (fun k => tammyref08_Check.l0 k l e o ((i + 1 : Nat) : Int)) (if wspec l (rd_T38 e (i : Int)) (rd o (i : Int)) = 0 then chk l e o m (i + 1) else ((i : Int), wspec l (rd_T38 e (i : Int)) (rd o (i : Int)))) := fun h => Ev.val (if_pos h) ih
        have finN : ∀ v, wspec l (rd_T38 e (i : Int)) (rd o (i : Int)) = v → v ≠ 0 → Ev (fun k => some ((i : Int), v)) (if wspec l (rd_T38 e (i : Int)) (rd o (i : Int)) = 0 then chk l e o m (i + 1) else ((i : Int), wspec l (rd_T38 e (i : Int)) (rd o (i : Int)))) := fun v h h0 => Ev.val (if_neg (by rw [h]; exact h0)) (by rw [h]; exact Ev.now _)
        by_cases h36 : (rd_T38 e (i : Int)).f0 = 3 ∨ (rd_T38 e (i : Int)).f0 = 6
        · have n4 : ¬ (rd_T38 e (i : Int)).f0 = 4 := by omega
          have n5 : ¬ (rd_T38 e (i : Int)).f0 = 5 := by omega
          refine Ev.pos (hb.2 h36) (Ev.bind (Known_is hl _) (Ev.bind (Find_is l _ (by omega)) ?_))
          show Ev (fun k => if findI (rd_T38 e (i : Int)).f1 l 0 < 0 then some ((i : Int), 3) else if knows l (rd_T38 e (i : Int)) = true then _ else _) _
          by_cases hn2 : findI (rd_T38 e (i : Int)).f1 l 0 < 0
          · exact Ev.pos hn2 (finN 3 (by unfold wspec; simp only [if_neg n4, if_neg n5, if_pos h36, if_pos hn2]) (by decide))
          · refine Ev.neg hn2 ?_
            by_cases hk : knows l (rd_T38 e (i : Int)) = true
            · refine Ev.pos hk (Ev.neg n4 (Ev.neg n5 ?_))
              by_cases h6 : (rd_T38 e (i : Int)).f0 = 6
              · refine Ev.pos h6 (Ev.pos L0 (Ev.pos L1 ?_))
                by_cases hs : rd o (i : Int) = 82
                · exact Ev.pos hs (fin0 (by unfold wspec; simp only [if_neg n4, if_neg n5, if_pos h36, if_neg hn2, if_pos hk, if_pos h6, if_pos hs]))
                · exact Ev.neg hs (finN 6 (by unfold wspec; simp only [if_neg n4, if_neg n5, if_pos h36, if_neg hn2, if_pos hk, if_pos h6, if_neg hs]) (by decide))
              · exact Ev.neg h6 (fin0 (by unfold wspec; simp only [if_neg n4, if_neg n5, if_pos h36, if_neg hn2, if_pos hk, if_neg h6]))
            · exact Ev.neg hk (finN 5 (by unfold wspec; simp only [if_neg n4, if_neg n5, if_pos h36, if_neg hn2, if_neg hk]) (by decide))
        · refine Ev.neg (fun h => h36 (hb.1 h)) ?_
          have n6 : ¬ (rd_T38 e (i : Int)).f0 = 6 := by omega
          by_cases h4 : (rd_T38 e (i : Int)).f0 = 4
          · refine Ev.pos h4 (Ev.pos L0 (Ev.pos L1 ?_))
            by_cases hs : rd o (i : Int) = 76
            · exact Ev.pos hs (Ev.neg (by omega) (Ev.neg n6 (fin0 (by unfold wspec; simp only [if_pos h4, if_pos hs]))))
            · exact Ev.neg hs (finN 6 (by unfold wspec; simp only [if_pos h4, if_neg hs]) (by decide))
          refine Ev.neg h4 ?_
          by_cases h5 : (rd_T38 e (i : Int)).f0 = 5
          · refine Ev.pos h5 (Ev.pos L0 (Ev.pos L1 ?_))
            by_cases hs : rd o (i : Int) = 82
            · exact Ev.pos hs (fin0 (by unfold wspec; simp only [if_neg h4, if_pos h5, if_pos hs]))
            · exact Ev.neg hs (finN 6 (by unfold wspec; simp only [if_neg h4, if_pos h5, if_neg hs]) (by decide))
          exact Ev.neg h5 (Ev.neg n6 (fin0 (by unfold wspec; simp only [if_neg h4, if_neg h5, if_neg h36])))
      by_cases h3 : (rd_T38 e (i : Int)).f0 = 3
      · exact Ev.pos h3 (J _ (by simp [h3]))
      · exact Ev.neg h3 (J _ (by simp [h3]))
theorem refCheck_is {l : List S52} (hl : l.length ≤ 64) {e : List S38} (F : Fine e) (a : Int) : Ev (fun k => tammyref08_Check.f k l e a) (chk l e (sides l e a) e.length 0) := by
  unfold tammyref08_Check.f
  exact Ev.bind (refOf_is hl F a) (refCheck_l0 hl F (sides_len l e a) e.length 0 (by omega))
end Go.Proofs.Ytgbickkmfjngbaa.K
