/- Plainly: a part of an expression, by itself: it is right, and its sides are the whole's. -/
import Derived.Test.YtgbickkmfjngbaaPg
namespace Go.Proofs.Ytgbickkmfjngbaa.K
open Go.RowKit Go.Proofs.YtgbickkmfjngbaaW.PrintWords Go.Proofs.YtgbickkmfjngbaaW.PrintLast Go.Proofs.YtgbickkmfjngbaaG.Words
set_option linter.unusedVariables false
set_option linter.unusedSimpArgs false

/-- From behind, trees end ever further ahead. -/
theorem end_lt {e : List S38} (F : Fine e) {i : Nat} (hi : i ≤ e.length) : ∀ {a b : Nat}, a < b → b ≤ dep e i → endAt (St e) ((i : Int) - 1) b < endAt (St e) ((i : Int) - 1) a
  | a, 0, h, _ => absurd h (Nat.not_lt_zero a)
  | a, b + 1, h, hb => by
    have c := St_ch F (i := i) (j := b) hi (by omega)
    have hn := F.len
    have s := St_rng F (q := (endAt (St e) ((i : Int) - 1) b).toNat) (by omega)
    rw [show (((endAt (St e) ((i : Int) - 1) b).toNat : Nat) : Int) = endAt (St e) ((i : Int) - 1) b by omega] at s
    have h1 : endAt (St e) ((i : Int) - 1) (b + 1) < endAt (St e) ((i : Int) - 1) b := by
      rw [endAt, w64 (by omega)]; omega
    by_cases e1 : a = b
    · rw [e1]; exact h1
    · have := end_lt F hi (a := a) (b := b) (by omega) (by omega); omega
theorem nest {e : List S38} (F : Fine e) : ∀ (t q : Nat), t < e.length → rd (St e) t ≤ (q : Int) → q ≤ t → rd (St e) t ≤ rd (St e) q
  | t, q, ht, h1, h2 => by
    by_cases e1 : q = t
    · rw [e1]; exact Int.le_refl _
    · have hat := St_at F ht
      have hf := F.fit t ht
      -- the part in which q lies
      have find : ∀ m, m ≤ pN e t → endAt (St e) ((t : Int) - 1) m < (q : Int) → ∃ j, j < m ∧ endAt (St e) ((t : Int) - 1) (j + 1) < (q : Int) ∧ (q : Int) ≤ endAt (St e) ((t : Int) - 1) j := by
        intro m
        induction m with
        | zero => intro _ h; rw [endAt] at h; omega
        | succ m ih =>
          intro hm h
          by_cases h3 : endAt (St e) ((t : Int) - 1) m < (q : Int)
          · obtain ⟨j, hj, hh⟩ := ih (by omega) h3
            exact ⟨j, by omega, hh⟩
          · exact ⟨m, by omega, h, by omega⟩
      obtain ⟨j, hj, hlo, hhi⟩ := find (pN e t) (Nat.le_refl _) (by omega)
      have k := kd_is F ht hj
      have kn := kd_next F ht hj
      rw [k.1] at hhi
      have hd : endAt (St e) ((t : Int) - 1) (pN e t) ≤ endAt (St e) ((t : Int) - 1) (j + 1) := by
        by_cases e2 : j + 1 = pN e t
        · rw [e2]; exact Int.le_refl _
        · have := end_lt F (i := t) (by omega) (a := j + 1) (b := pN e t) (by omega) hf; omega
      have := nest F (kd e t j) q (by omega) (by omega) (by omega)
      omega
termination_by t => t
decreasing_by exact (kd_is F ht hj).2

section
variable {e : List S38} {t s : Nat}
/-- The nodes from s to t. -/
def part (e : List S38) (s t : Nat) : List S38 := (e.take (t + 1)).drop s
theorem part_len (ht : t < e.length) : (part e s t).length = t + 1 - s := by simp [part]; omega
theorem part_at (ht : t < e.length) {i : Nat} (hi : i < (part e s t).length) : rd_T38 (part e s t) (i : Int) = rd_T38 e ((s + i : Nat) : Int) := by
  have hl := part_len (s := s) ht
  rw [rd38_get hi, rd38_get (by omega)]
  simp [part]
theorem part_pN (ht : t < e.length) {i : Nat} (hi : i < (part e s t).length) : pN (part e s t) i = pN e (s + i) := by
  unfold pN; rw [part_at ht hi]
theorem part_dep (F : Fine e) (ht : t < e.length) (hs : rd (St e) t = (s : Int)) : ∀ i, i ≤ (part e s t).length → dep (part e s t) i + dep e s = dep e (s + i) ∧ endAt (St e) (((s + i : Nat) : Int) - 1) (dep (part e s t) i) = (s : Int) - 1
  | 0, _ => ⟨by rw [dep]; simp, by rw [dep, endAt]; rfl⟩
  | i + 1, hi => by
    have hl := part_len (s := s) ht
    obtain ⟨h1, h2⟩ := part_dep F ht hs i (by omega)
    have hp := part_pN (s := s) ht (i := i) (by omega)
    have hf := F.fit (s + i) (by omega)
    have hat := St_at F (i := s + i) (by omega)
    have hnest := nest F t (s + i) ht (by omega) (by omega)
    have hle : pN e (s + i) ≤ dep (part e s t) i := by
      rcases Nat.lt_or_ge (dep (part e s t) i) (pN e (s + i)) with h | h
      · have := end_lt F (i := s + i) (by omega) h hf; omega
      · exact h
    have hd : dep (part e s t) (i + 1) = dep (part e s t) i - pN e (s + i) + 1 := by rw [dep, hp]; omega
    have hd2 : dep e (s + (i + 1)) = dep e (s + i) + 1 - pN e (s + i) := rfl
    refine ⟨by omega, ?_⟩
    have := end_up F (i := s + i) (by omega) hle (by omega)
    rw [hd, show s + (i + 1) = s + i + 1 by omega, ← this]
    exact h2
theorem part_fine (F : Fine e) (ht : t < e.length) (hs : rd (St e) t = (s : Int)) : Fine (part e s t) := by
  have hl := part_len (s := s) ht
  have hn := F.len
  have hst := St_rng F ht
  refine ⟨by omega, fun i hi => by rw [part_at ht hi]; exact F.may _ (by omega), fun i hi => ?_, ?_⟩
  · have hp := part_pN (s := s) ht hi
    obtain ⟨h1, h2⟩ := part_dep F ht hs i (by omega)
    have hf := F.fit (s + i) (by omega)
    have hat := St_at F (i := s + i) (by omega)
    have hnest := nest F t (s + i) ht (by omega) (by omega)
    rw [hp]
    rcases Nat.lt_or_ge (dep (part e s t) i) (pN e (s + i)) with h | h
    · have := end_lt F (i := s + i) (by omega) h hf; omega
    · exact h
  · obtain ⟨h1, h2⟩ := part_dep F ht hs _ (Nat.le_refl _)
    have hst2 : s + (part e s t).length = t + 1 := by omega
    rw [hst2] at h1 h2
    have hf := F.fit t ht
    have hd : dep e (t + 1) = dep e t + 1 - pN e t := rfl
    have h3 : endAt (St e) (((t + 1 : Nat) : Int) - 1) 1 = (s : Int) - 1 := by
      rw [endAt, endAt, show ((t + 1 : Nat) : Int) - 1 = (t : Int) by omega, hs, w64 (by omega)]
    generalize dep (part e s t) (part e s t).length = D at *
    rcases Nat.lt_trichotomy D 1 with h | h | h
    · have := end_lt F (i := t + 1) (by omega) h (by omega); omega
    · exact h
    · have := end_lt F (i := t + 1) (by omega) h (by omega); omega
theorem part_end (F : Fine e) (ht : t < e.length) (hs : rd (St e) t = (s : Int)) : ∀ i, i ≤ (part e s t).length → ∀ j, j ≤ dep (part e s t) i → endAt (St (part e s t)) ((i : Int) - 1) j = endAt (St e) (((s + i : Nat) : Int) - 1) j - (s : Int)
  | i, hi, 0, _ => by rw [endAt, endAt]; omega
  | i, hi, j + 1, hj => by
    have PF := part_fine F ht hs
    have hl := part_len (s := s) ht
    have hn := F.len
    have ih := part_end F ht hs i hi j (by omega)
    have c := St_ch PF (i := i) (j := j) hi (by omega)
    have d1 := part_dep F ht hs i hi
    have c2 := St_ch F (i := s + i) (j := j) (by omega) (by omega)
    obtain ⟨q, hq⟩ : ∃ q : Nat, endAt (St (part e s t)) ((i : Int) - 1) j = (q : Int) := ⟨_, (Int.toNat_of_nonneg c.1).symm⟩
    have hqi : q < i := by omega
    have hq2 : endAt (St e) (((s + i : Nat) : Int) - 1) j = ((s + q : Nat) : Int) := by omega
    have hfq := PF.fit q (by omega)
    have r := part_end F ht hs q (by omega) (pN (part e s t) q) hfq
    have a1 := St_at PF (i := q) (by omega)
    have a2 := St_at F (i := s + q) (by omega)
    rw [part_pN ht (by omega)] at r a1
    have r1 := St_rng PF (q := q) (by omega)
    have r2 := St_rng F (q := s + q) (by omega)
    rw [endAt, endAt, hq, hq2, w64 (by omega), w64 (by omega)]
    omega
termination_by i _ j => (i, j)
theorem part_kd (F : Fine e) (ht : t < e.length) (hs : rd (St e) t = (s : Int)) {i : Nat} (hi : i < (part e s t).length) {j : Nat} (hj : j < pN e (s + i)) : kd e (s + i) j = s + kd (part e s t) i j := by
  have PF := part_fine F ht hs
  have hl := part_len (s := s) ht
  have hp := part_pN (s := s) ht hi
  have h := part_end F ht hs i (by omega) j (by have := PF.fit i hi; omega)
  have k1 := kd_is PF hi (j := j) (by omega)
  have k2 := kd_is F (i := s + i) (by omega) hj
  omega
/-- The part's stages beside the whole's. -/
theorem part_lock {l : List S52} (F : Fine e) (ht : t < e.length) (hs : rd (St e) t = (s : Int)) : ∀ (i : Nat) (o1 o2 : List Int), i ≤ (part e s t).length → o1.length = (part e s t).length → o2.length = e.length →
    (∀ j, j < dep (part e s t) i → rd o1 (endAt (St (part e s t)) ((i : Int) - 1) j) = rd o2 ((s : Int) + endAt (St (part e s t)) ((i : Int) - 1) j)) → (∀ x : Nat, i ≤ x → x < (part e s t).length → rd o1 (x : Int) = rd o2 ((s + x : Nat) : Int)) →
    ∀ x : Nat, x < (part e s t).length → rd (allS l (part e s t) i o1) (x : Int) = rd (allS l e (s + i) o2) ((s + x : Nat) : Int)
  | 0, o1, o2, _, _, _, _, h, x, hx => by
    have hl := part_len (s := s) ht
    rw [allS_up F (i := s + 0) (by omega) (by omega)]
    exact h x (by omega) hx
  | i + 1, o1, o2, hi, h1, h2, htop, h, x, hx => by
    have PF := part_fine F ht hs
    have hl := part_len (s := s) ht
    have hf := PF.fit i hi
    have hp := part_pN (s := s) ht (i := i) hi
    have hnode := part_at (s := s) ht (i := i) hi
    have hcur : rd o1 (i : Int) = rd o2 ((s + i : Nat) : Int) := by
      have := htop 0 (by show 0 < dep (part e s t) i + 1 - pN (part e s t) i; omega)
      rwa [endAt, show ((i + 1 : Nat) : Int) - 1 = (i : Int) by omega, show (s : Int) + (i : Int) = ((s + i : Nat) : Int) by omega] at this
    have hval : ∀ j, j < pN e (s + i) → rd (stg l (part e s t) i o1) (kd (part e s t) i j : Int) = rd (stg l e (s + i) o2) ((s + kd (part e s t) i j : Nat) : Int) := fun j hj => by
      rw [← part_kd F ht hs hi hj, stg, stg, wr_at PF hi h1 (Nat.le_refl _) (by omega), wr_at F (by omega) h2 (Nat.le_refl _) hj, hcur, hnode, hp]
    rw [allS, show s + (i + 1) = s + i + 1 by omega, allS]
    refine part_lock F ht hs i _ _ (by omega) (by rw [stg_len]; exact h1) (by rw [stg_len]; exact h2) (fun j hj => ?_) (fun y hy hyl => ?_) x hx
    · have hc := St_ch PF (i := i) (j := j) (by omega) hj
      by_cases hk : ∃ q, q < pN (part e s t) i ∧ (kd (part e s t) i q : Int) = endAt (St (part e s t)) ((i : Int) - 1) j
      · obtain ⟨q, hq, hqe⟩ := hk
        rw [← hqe, hval q (by omega)]
        congr 1
      · have hjp : pN (part e s t) i ≤ j := by
          rcases Nat.lt_or_ge j (pN (part e s t) i) with h | h
          · exact absurd ⟨j, h, (kd_is PF hi h).1.symm⟩ hk
          · exact h
        obtain ⟨y, hy⟩ : ∃ y : Nat, endAt (St (part e s t)) ((i : Int) - 1) j = (y : Int) := ⟨_, (Int.toNat_of_nonneg hc.1).symm⟩
        have h3 := htop (j - pN (part e s t) i + 1) (by show j - pN (part e s t) i + 1 < dep (part e s t) i + 1 - pN (part e s t) i; omega)
        rw [← end_up PF hi hjp (by omega), hy, show (s : Int) + (y : Int) = ((s + y : Nat) : Int) by omega] at h3
        rw [hy, show (s : Int) + (y : Int) = ((s + y : Nat) : Int) by omega]
        rw [stg, stg, wr_else (fun q hq h => hk ⟨q, hq, by omega⟩), wr_else (fun q hq h => hk ⟨q, by omega, by rw [part_kd F ht hs hi hq] at h; omega⟩)]
        exact h3
    · rw [stg, stg, wr_up PF hi (Nat.le_refl _) hy, wr_up F (by omega) (Nat.le_refl _) (by omega)]
      by_cases e1 : y = i
      · rw [e1]; exact hcur
      · exact h y (by omega) hyl
theorem allS_split (l : List S52) (e : List S38) : ∀ (k i : Nat) (o : List Int), ∃ o2, allS l e (i + k) o = allS l e i o2 ∧ o2.length = o.length
  | 0, i, o => ⟨o, rfl, rfl⟩
  | k + 1, i, o => by
    obtain ⟨o2, h1, h2⟩ := allS_split l e k i (stg l e (i + k) o)
    exact ⟨o2, by rw [← Nat.add_assoc, allS]; exact h1, by rw [h2, stg_len]⟩
theorem norm_id {b : Int} (h : G3 b) : norm b = b := by
  unfold norm G3 at *
  rcases h with rfl | rfl | rfl <;> simp
theorem part_sides {l : List S52} (F : Fine e) (ht : t < e.length) (hs : rd (St e) t = (s : Int)) (a : Int) {x : Nat} (hx : x < (part e s t).length) : rd (sides l (part e s t) (rd (sides l e a) (t : Int))) (x : Int) = rd (sides l e a) ((s + x : Nat) : Int) := by
  have PF := part_fine F ht hs
  have hl := part_len (s := s) ht
  have hp := PF.pos
  obtain ⟨o2, h1, h2⟩ := allS_split l e (e.length - (t + 1)) (t + 1) (init e a)
  rw [show t + 1 + (e.length - (t + 1)) = e.length by omega] at h1
  have h3 : sides l e a = allS l e (t + 1) o2 := h1
  have hlen : o2.length = e.length := by rw [h2, init, List.length_set, List.length_replicate]
  have hcur : rd (sides l e a) (t : Int) = rd o2 (t : Int) := by rw [h3]; exact allS_up F (by omega) (by omega)
  have hb := norm_id (sides_good (l := l) F a ht)
  rw [hcur] at hb ⊢
  rw [sides, h3, show t + 1 = s + (part e s t).length by omega]
  have hin : rd (init (part e s t) (rd o2 (t : Int))) (((part e s t).length - 1 : Nat) : Int) = rd o2 (t : Int) := by
    rw [init, rd_set_eq (by rw [List.length_replicate]; omega)]; exact hb
  refine part_lock F ht hs _ _ _ (Nat.le_refl _) (by rw [init, List.length_set, List.length_replicate]) hlen (fun j hj => ?_) (fun y hy hyl => absurd hyl (by omega)) x hx
  rw [PF.one] at hj
  obtain rfl : j = 0 := by omega
  rw [endAt, show ((part e s t).length : Int) - 1 = (((part e s t).length - 1 : Nat) : Int) by omega, hin]
  congr 1
  omega
/-- The part's row is the whole's window. -/
theorem part_window {l : List S52} (F : Fine e) (ht : t < e.length) (hs : rd (St e) t = (s : Int)) (a : Int) : sides l (part e s t) (rd (sides l e a) (t : Int)) = ((sides l e a).take (t + 1)).drop s := by
  have hl := part_len (s := s) ht
  have h1 := sides_len l e a
  refine rd_ext (by rw [sides_len]; simp; omega) (fun x hx => ?_)
  rw [sides_len] at hx
  rw [part_sides F ht hs a hx]
  unfold rd
  rw [List.getD_eq_getElem?_getD, List.getD_eq_getElem?_getD, Int.toNat_natCast, Int.toNat_natCast, List.getElem?_drop, List.getElem?_take, if_pos (by omega)]
theorem part_ok {l : List S52} (F : Fine e) (ht : t < e.length) (hs : rd (St e) t = (s : Int)) (a : Int) (h : ∀ j, s ≤ j → j ≤ t → wspec l (rd_T38 e (j : Int)) (rd (sides l e a) (j : Int)) = 0) :
    chk l (part e s t) (sides l (part e s t) (rd (sides l e a) (t : Int))) (part e s t).length 0 = (0, 0) := by
  have hl := part_len (s := s) ht
  refine chk_ok (fun j _ hj => ?_)
  rw [part_sides F ht hs a (by omega), part_at ht (by omega)]
  exact h _ (by omega) (by omega)
end
end Go.Proofs.Ytgbickkmfjngbaa.K
