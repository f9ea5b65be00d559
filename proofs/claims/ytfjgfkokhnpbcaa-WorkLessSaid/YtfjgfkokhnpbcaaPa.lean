/- Plainly: tables: how many slots, how keys are laid, where a key is found. -/
import Derived.Test.YtfjgfkokhnpbcaaP0
import Derived.Test.YtfjgfkokhnpbcaaHh
import Derived.Test.YtfjgfkokhnpbcaaUx0
import Derived.Test.YtfjgfkokhnpbcaaUx2
import Derived.Test.YtfjgfkokhnpbcaaUx3
import Derived.Test.YtfjgfkokhnpbcaaUx7
import Derived.Test.YtfjgfkokhnpbcaaUx8
namespace Go.Proofs.Ytfjgfkokhnpbcaa.U
open Go.RowKit Go.Proofs.YtfjgfkokhnpbcaaW.PrintWords Go.Proofs.YtfjgfkokhnpbcaaW.PrintLast Go.Proofs.YtfjgfkokhnpbcaaW.PrintMore
set_option linter.unusedVariables false
set_option linter.unusedSimpArgs false

/-! ### How many slots -/
def sizeS : Nat → Nat → Nat → Nat
  | 0, s, _ => s
  | d + 1, s, n => if 3 * s < 4 * n then sizeS d (2 * s) n else s
def sizeN (n : Nat) : Nat := sizeS 12 8 n
theorem sizeS_spec : ∀ (d s n : Nat), 4 * n ≤ 3 * s * 2 ^ d → s ≤ sizeS d s n ∧ sizeS d s n ≤ s * 2 ^ d ∧ 4 * n ≤ 3 * sizeS d s n
  | 0, s, n, h => by simp [sizeS] at *; omega
  | d + 1, s, n, h => by
    rw [sizeS]
    have hp : 2 ^ (d + 1) = 2 * 2 ^ d := by rw [Nat.pow_succ, Nat.mul_comm]
    by_cases e : 3 * s < 4 * n
    · rw [if_pos e]
      obtain ⟨h1, h2, h3⟩ := sizeS_spec d (2 * s) n (by rw [hp] at h; calc 4 * n ≤ _ := h
                                                        _ = _ := by rw [← Nat.mul_assoc]; congr 1; omega)
      refine ⟨by omega, ?_, h3⟩
      rw [hp]; calc _ ≤ _ := h2
                    _ = _ := by rw [← Nat.mul_assoc]; congr 1; omega
    · rw [if_neg e]
      have : 1 ≤ 2 ^ (d + 1) := Nat.one_le_two_pow
      exact ⟨Nat.le_refl _, Nat.le_mul_of_pos_right _ (by omega), by omega⟩
theorem sizeN_spec {n : Nat} (h : n ≤ 6000) : 8 ≤ sizeN n ∧ sizeN n ≤ 32768 ∧ 4 * n ≤ 3 * sizeN n := by
  have := sizeS_spec 12 8 n (by omega)
  exact ⟨this.1, this.2.1, this.2.2⟩
theorem size_run : ∀ (d m n : Nat), 4 * n ≤ 3 * (4 * m) * 2 ^ d → n ≤ 6000 → 4 * m * 2 ^ d ≤ 65536 → Ev (fun k => hash_Size.l0 k (n : Int) ((4 * m : Nat) : Int)) ((sizeS d (4 * m) n : Nat) : Int)
  | d, m, n, h, hn, hb => by
    have hm : 4 * m ≤ 65536 := Nat.le_trans (Nat.le_mul_of_pos_right _ (Nat.two_pow_pos d)) hb
    have h1 : wrap64 ((wrap64 (Int.tdiv ((4 * m : Nat) : Int) 4)) * 3) = ((3 * m : Nat) : Int) := by
      rw [Int.tdiv_eq_ediv_of_nonneg (by omega), w64 (n := ((4 * m : Nat) : Int) / 4) (by omega), w64 (by omega)]; omega
    have h2 : wrap64 (((4 * m : Nat) : Int) * 2) = ((4 * (2 * m) : Nat) : Int) := by rw [w64 (by omega)]; omega
    refine Ev.step (fun k => hash_Size.l0.eq_2 n _ k) ?_
    simp only [h1, h2]
    cases d with
    | zero =>
      refine Ev.neg (by simp at h; omega) ?_
      exact Ev.now _
    | succ d =>
      rw [sizeS]
      have hp : 2 ^ (d + 1) = 2 * 2 ^ d := by rw [Nat.pow_succ, Nat.mul_comm]
      by_cases e : 3 * (4 * m) < 4 * n
      · rw [if_pos e]
        refine Ev.pos (by omega) ?_
        have := size_run d (2 * m) n (by rw [hp] at h; calc 4 * n ≤ _ := h
                                                        _ = _ := by rw [← Nat.mul_assoc]; congr 1; omega) hn (by rw [hp] at hb; have e3 : 4 * (2 * m) * 2 ^ d = 4 * m * (2 * 2 ^ d) := (by rw [← Nat.mul_assoc (4 * m)]; congr 1; omega); omega)
        rw [show 2 * (4 * m) = 4 * (2 * m) by omega]
        exact this
      · rw [if_neg e]
        exact Ev.neg (by omega) (Ev.now _)
theorem size_ev {n : Nat} (hn : n ≤ 6000) : Ev (fun k => hash_Size.f k (n : Int)) ((sizeN n : Nat) : Int) := size_run 12 2 n (by omega) hn (by omega)
theorem rsize_run : ∀ (d s n : Nat), 4 * n ≤ 3 * s * 2 ^ d → n ≤ 6000 → s * 2 ^ d ≤ 65536 → Ev (fun k => tammyref02_Size.l0 k (n : Int) ((s : Nat) : Int)) ((sizeS d s n : Nat) : Int)
  | d, s, n, h, hn, hb => by
    have hm : s ≤ 65536 := Nat.le_trans (Nat.le_mul_of_pos_right _ (Nat.two_pow_pos d)) hb
    have h1 : wrap64 (((s : Nat) : Int) * 3) = ((3 * s : Nat) : Int) := by rw [w64 (by omega)]; omega
    have h3 : wrap64 (((n : Nat) : Int) * 4) = ((4 * n : Nat) : Int) := by rw [w64 (by omega)]; omega
    have h2 : wrap64 (((s : Nat) : Int) * 2) = ((2 * s : Nat) : Int) := by rw [w64 (by omega)]; omega
    refine Ev.step (fun k => tammyref02_Size.l0.eq_2 n _ k) ?_
    simp only [h1, h2, h3]
    cases d with
    | zero =>
      refine Ev.neg (by simp at h; omega) ?_
      exact Ev.now _
    | succ d =>
      rw [sizeS]
      have hp : 2 ^ (d + 1) = 2 * 2 ^ d := by rw [Nat.pow_succ, Nat.mul_comm]
      by_cases e : 3 * s < 4 * n
      · rw [if_pos e]
        refine Ev.pos (by omega) ?_
        exact rsize_run d (2 * s) n (by rw [hp] at h; calc 4 * n ≤ _ := h
                                                        _ = _ := by rw [← Nat.mul_assoc]; congr 1; omega) hn (by rw [hp] at hb; have e3 : 2 * s * 2 ^ d = s * (2 * 2 ^ d) := (by rw [← Nat.mul_assoc s]; congr 1; omega); omega)
      · rw [if_neg e]
        exact Ev.neg (by omega) (Ev.now _)
theorem rsize_ev {n : Nat} (hn : n ≤ 6000) : Ev (fun k => tammyref02_Size.f k (n : Int)) ((sizeN n : Nat) : Int) := rsize_run 12 8 n (by omega) hn (by omega)

/-! ### Keys are laid -/
abbrev hN (key : List Int) : Nat := (hs key).toNat
theorem hN_hs (key : List Int) : ((hN key : Nat) : Int) = hs key := by have := hs_range key; unfold hN; omega
theorem place_ev {sl key : List Int} {n : Int} (h0 : 0 < sl.length) (h1 : sl.length ≤ 65536) (hk : Sh key) : Ev (fun k => hash_place.f k sl key n) (placeL sl (hN key) (wrap64 (n + 1)) sl.length 0) := by
  unfold hash_place.f
  have := hs_range key
  exact Ev.pos h0 (Ev.pos (by omega) ((hash_ev hk).bind (Ev.pos this.1 (Ev.pos this.2 (Ev.now _)))))
theorem placeL_length {l : List Int} {h : Nat} {v : Int} : ∀ (m j : Nat), (placeL l h v m j).length = l.length
  | 0, _ => rfl
  | m + 1, j => by
    rw [placeL]
    split
    · simp
    · exact placeL_length m (j + 1)
def layL : List (List Int) → Int → List Int → List Int
  | [], _, sl => sl
  | q :: qs, n, sl => layL qs (n + 1) (placeL sl (hN q) (n + 1) sl.length 0)
def layS (keys : List (List Int)) : List Int := layL keys 0 (List.replicate (sizeN keys.length) 0)
theorem lay_from {keys : List (List Int)} (H : Keys keys) : ∀ (m i : Nat) (sl : List Int), i + m = keys.length → 0 < sl.length → sl.length ≤ 65536 → Ev (fun k => hash_Lay.l0 k sl keys (keys.length : Int) (i : Int)) (layL (keys.drop i) i sl)
  | 0, i, sl, h, h0, h1 => by
    refine Ev.step (fun k => hash_Lay.l0.eq_2 sl keys _ i k) (Ev.neg (by omega) ?_)
    rw [List.drop_of_length_le (by omega)]
    exact Ev.now _
  | m + 1, i, sl, h, h0, h1 => by
    have hi : i < keys.length := by omega
    have hl := H.len
    refine Ev.step (fun k => hash_Lay.l0.eq_2 sl keys _ i k) (Ev.pos (by omega) (Ev.pos (by omega) (Ev.pos (by omega) ?_)))
    rw [rdL_at hi, drop_at hi, layL]
    refine (place_ev h0 h1 (H.row _ (List.getElem_mem hi))).bind ?_
    have hw : wrap64 ((i : Int) + 1) = ((i + 1 : Nat) : Int) := by unfold Sh at hl; rw [w64 (by omega)]; rfl
    rw [hw]
    have := lay_from H m (i + 1) (placeL sl (hN keys[i]) ((i + 1 : Nat) : Int) sl.length 0) (by omega) (by rw [placeL_length]; exact h0) (by rw [placeL_length]; exact h1)
    exact this
theorem lay_ev {keys : List (List Int)} (H : Keys keys) (hn : keys.length ≤ 6000) : Ev (fun k => hash_Lay.f k keys) (layS keys) := by
  unfold hash_Lay.f
  have hz := sizeN_spec hn
  refine (size_ev hn).bind (Ev.pos (by omega) (Ev.pos (by omega) ?_))
  rw [Int.toNat_natCast]
  have := lay_from H keys.length 0 (List.replicate (sizeN keys.length) 0) (by omega) (by simp; omega) (by simp; omega)
  exact this

/-! ### What slots bear -/
/-- How many slots bear something. -/
def nz (l : List Int) : Nat := l.countP (fun x => decide (x ≠ 0))
theorem nz_set : ∀ {l : List Int} {i : Nat} {v : Int} (hi : i < l.length), l[i] = 0 → v ≠ 0 → nz (l.set i v) = nz l + 1
  | x :: xs, 0, v, hi, h, hv => by
    have : x = 0 := by simpa using h
    subst this
    simp [nz, List.countP_cons, hv]
  | x :: xs, i + 1, v, hi, h, hv => by
    have ih := nz_set (l := xs) (i := i) (v := v) (by simpa using hi) (by simpa using h) hv
    unfold nz at ih ⊢
    rw [List.set_cons_succ, List.countP_cons, List.countP_cons, ih]
    omega
theorem nz_free : ∀ {l : List Int}, nz l < l.length → ∃ (i : Nat) (hi : i < l.length), l[i] = 0
  | [], h => by simp at h
  | x :: xs, h => by
    by_cases e : x = 0
    · exact ⟨0, by simp, by simpa using e⟩
    · obtain ⟨i, hi, hz⟩ := nz_free (l := xs) (by
        unfold nz at h ⊢
        rw [List.countP_cons, show decide (x ≠ 0) = true from by simp [e]] at h
        simp only [if_true, List.length_cons] at h
        omega)
      exact ⟨i + 1, by simpa using hi, by simpa using hz⟩
theorem ring_hits {n : Nat} (hn : 0 < n) (h x : Nat) (hx : x < n) : ∃ i, i < n ∧ (h + i) % n = x := by
  have hm := Nat.mod_lt h hn
  by_cases e : h % n ≤ x
  · refine ⟨x - h % n, by omega, ?_⟩
    rw [Nat.add_mod, Nat.mod_eq_of_lt (show x - h % n < n by omega), show h % n + (x - h % n) = x by omega]
    exact Nat.mod_eq_of_lt hx
  · refine ⟨x + n - h % n, by omega, ?_⟩
    rw [Nat.add_mod, Nat.mod_eq_of_lt (show x + n - h % n < n by omega), show h % n + (x + n - h % n) = x + n by omega]
    rw [Nat.add_mod_right]
    exact Nat.mod_eq_of_lt hx
/-- Of the ring from h on, the first slot that is free. -/
theorem first_free {l : List Int} (hl : 0 < l.length) (hf : nz l < l.length) (h : Nat) : ∃ i, i < l.length ∧ rd l (((h + i) % l.length : Nat) : Int) = 0 ∧ ∀ q, q < i → rd l (((h + q) % l.length : Nat) : Int) ≠ 0 := by
  obtain ⟨x, hx, hz⟩ := nz_free hf
  obtain ⟨i, hi, he⟩ := ring_hits hl h x hx
  obtain ⟨m, h1, h2, h3⟩ := first_of (P := fun i => rd l (((h + i) % l.length : Nat) : Int) = 0) i (by rw [he, rd_at hx, hz])
  exact ⟨m, by omega, h2, h3⟩
structure Inv (keys : List (List Int)) (m : Nat) (sl : List Int) : Prop where
  le : m ≤ keys.length
  rng : ∀ x, x < sl.length → 0 ≤ rd sl (x : Int) ∧ rd sl (x : Int) ≤ m
  cnt : nz sl = m
  pos : ∀ (j : Nat) (hj : j < m), ∃ i, i < sl.length ∧ rd sl (((hN (keys[j]'(Nat.lt_of_lt_of_le hj le)) + i) % sl.length : Nat) : Int) = (j : Int) + 1 ∧ ∀ q, q < i → rd sl (((hN (keys[j]'(Nat.lt_of_lt_of_le hj le)) + q) % sl.length : Nat) : Int) ≠ 0
theorem rd_set {l : List Int} {i x : Nat} {v : Int} (hi : i < l.length) (hx : x < l.length) : rd (l.set i v) (x : Int) = if x = i then v else rd l (x : Int) := by
  rw [rd_at (by simpa using hx), rd_at hx, List.getElem_set]
  by_cases e : x = i
  · subst e; simp
  · rw [if_neg (fun h => e h.symm), if_neg e]
theorem Inv.step {keys : List (List Int)} {m : Nat} {sl : List Int} (I : Inv keys m sl) (hm : m < keys.length) (hf : m < sl.length) : Inv keys (m + 1) (placeL sl (hN keys[m]) ((m : Int) + 1) sl.length 0) := by
  have h0 : 0 < sl.length := by omega
  obtain ⟨i, hi, hz, hn⟩ := first_free h0 (by rw [I.cnt]; exact hf) (hN keys[m])
  rw [placeL_at hz sl.length 0 (by omega) (by omega) (fun q _ hq => hn q hq)]
  have hx : (hN keys[m] + i) % sl.length < sl.length := Nat.mod_lt _ h0
  refine ⟨hm, fun x hxl => ?_, ?_, fun j hj => ?_⟩
  · rw [List.length_set] at hxl
    rw [rd_set hx hxl]
    have := I.rng x hxl
    split <;> omega
  · rw [nz_set hx (by rw [rd_at hx] at hz; exact hz) (by omega), I.cnt]
  · rw [List.length_set]
    by_cases e : j = m
    · subst e
      refine ⟨i, hi, ?_, fun q hq => ?_⟩
      · rw [rd_set hx hx, if_pos rfl]
      · have hq2 : (hN keys[j] + q) % sl.length < sl.length := Nat.mod_lt _ h0
        rw [rd_set hx hq2]
        split
        · omega
        · exact hn q hq
    · obtain ⟨i2, hi2, hv, hn2⟩ := I.pos j (by omega)
      have far : ∀ x, x < sl.length → rd sl (x : Int) ≠ 0 → rd (sl.set ((hN keys[m] + i) % sl.length) ((m : Int) + 1)) (x : Int) = rd sl (x : Int) := fun x hxl hne => by
        rw [rd_set hx hxl]
        split
        · rename_i e2; rw [e2] at hne; exact absurd hz hne
        · rfl
      refine ⟨i2, hi2, ?_, fun q hq => ?_⟩
      · rw [far _ (Nat.mod_lt _ h0) (by rw [hv]; omega)]; exact hv
      · rw [far _ (Nat.mod_lt _ h0) (hn2 q hq)]; exact hn2 q hq
theorem rd_replicate (n : Nat) (x : Nat) : rd (List.replicate n 0) (x : Int) = 0 := by
  unfold rd
  rw [List.getD_eq_getElem?_getD, List.getElem?_replicate]
  split <;> rfl
theorem nz_replicate : ∀ n, nz (List.replicate n 0) = 0
  | 0 => rfl
  | n + 1 => by
    have := nz_replicate n
    unfold nz at *
    rw [List.replicate_succ, List.countP_cons, this]; simp
theorem Inv.start (keys : List (List Int)) (n : Nat) : Inv keys 0 (List.replicate n 0) := ⟨Nat.zero_le _, fun x _ => by rw [rd_replicate]; exact ⟨Int.le_refl _, Int.le_refl _⟩, nz_replicate n, fun j hj => absurd hj (by omega)⟩
theorem Inv.lay {keys : List (List Int)} : ∀ (d m : Nat) (sl : List Int), m + d = keys.length → keys.length < sl.length → Inv keys m sl → Inv keys keys.length (layL (keys.drop m) m sl) ∧ (layL (keys.drop m) m sl).length = sl.length
  | 0, m, sl, h, hl, I => by
    obtain rfl : m = keys.length := by omega
    rw [List.drop_length]; exact ⟨I, rfl⟩
  | d + 1, m, sl, h, hl, I => by
    have hm : m < keys.length := by omega
    rw [drop_at hm, layL]
    have ih := Inv.lay (keys := keys) d (m + 1) (placeL sl (hN keys[m]) ((m : Int) + 1) sl.length 0) (by omega) (by rw [placeL_length]; exact hl) (I.step hm (by omega))
    rw [placeL_length] at ih
    exact ih
theorem layS_inv {keys : List (List Int)} (hn : keys.length ≤ 6000) : Inv keys keys.length (layS keys) ∧ (layS keys).length = sizeN keys.length := by
  have hz := sizeN_spec hn
  have := Inv.lay keys.length 0 (List.replicate (sizeN keys.length) 0) (by omega) (by simp; omega) (Inv.start keys _)
  rw [List.length_replicate] at this
  exact this
theorem layL_snoc (key : List Int) : ∀ (ks : List (List Int)) (n : Int) (sl : List Int), layL (ks ++ [key]) n sl = placeL (layL ks n sl) (hN key) (n + ks.length + 1) (layL ks n sl).length 0
  | [], n, sl => by simp [layL]
  | q :: qs, n, sl => by
    rw [List.cons_append, layL, layL, layL_snoc key qs, show n + 1 + (qs.length : Int) + 1 = n + ((q :: qs).length : Int) + 1 by simp; omega]

/-! ### The reference lays them alike -/
theorem rlay_l1 {keys : List (List Int)} {sl : List Int} (i : Nat) (h0 : 0 < sl.length) (h1 : sl.length ≤ 65536) (h : Nat) {r : List Int} {a : Nat} (ha : a < sl.length) (hz : rd sl (((h + a) % sl.length : Nat) : Int) = 0) (hn : ∀ q, q < a → rd sl (((h + q) % sl.length : Nat) : Int) ≠ 0)
    (hk : Ev (fun k => tammyref02_Lay.l0 k keys (sl.set ((h + a) % sl.length) (wrap64 ((i : Int) + 1))) (wrap64 ((i : Int) + 1))) r) : ∀ (d j : Nat), j + d = a → Ev (fun k => tammyref02_Lay.l1 k keys sl (i : Int) (((h + j) % sl.length : Nat) : Int)) r
  | 0, j, hj => by
    obtain rfl : j = a := by omega
    have := Nat.mod_lt (h + j) h0
    refine Ev.step (fun k => tammyref02_Lay.l1.eq_2 keys sl i _ k) (Ev.pos (by omega) (Ev.pos (by omega) (Ev.pos hz ?_)))
    rw [Int.toNat_natCast]
    exact hk
  | d + 1, j, hj => by
    have hm := Nat.mod_lt (h + j) h0
    refine Ev.step (fun k => tammyref02_Lay.l1.eq_2 keys sl i _ k) (Ev.pos (by omega) (Ev.pos (by omega) (Ev.neg (hn j (by omega)) ?_)))
    have hw : wrap64 ((((h + j) % sl.length : Nat) : Int) + 1) = (((h + j) % sl.length + 1 : Nat) : Int) := by rw [w64 (by omega)]; rfl
    rw [hw]
    have ih := rlay_l1 i h0 h1 h ha hz hn hk d (j + 1) (by omega)
    have hs : (h + (j + 1)) % sl.length = ((h + j) % sl.length + 1) % sl.length := by rw [← Nat.add_assoc, Nat.add_mod, Nat.add_mod ((h + j) % sl.length) 1, Nat.mod_mod]
    by_cases e : (h + j) % sl.length + 1 = sl.length
    · refine Ev.pos (by omega) ?_
      rw [hs, e, Nat.mod_self] at ih
      exact ih
    · refine Ev.neg (by omega) ?_
      rw [hs, Nat.mod_eq_of_lt (show (h + j) % sl.length + 1 < sl.length by omega)] at ih
      exact ih
theorem rlay_from {keys : List (List Int)} (H : Keys keys) : ∀ (m i : Nat) (sl : List Int), i + m = keys.length → keys.length < sl.length → sl.length ≤ 65536 → nz sl = i → Ev (fun k => tammyref02_Lay.l0 k keys sl (i : Int)) (layL (keys.drop i) i sl)
  | 0, i, sl, h, h0, h1, hz => by
    refine Ev.step (fun k => tammyref02_Lay.l0.eq_2 keys sl i k) (Ev.neg (by omega) ?_)
    rw [List.drop_of_length_le (by omega)]
    exact Ev.now _
  | m + 1, i, sl, h, h0, h1, hc => by
    have hi : i < keys.length := by omega
    have hl := H.len
    have hp : 0 < sl.length := by omega
    refine Ev.step (fun k => tammyref02_Lay.l0.eq_2 keys sl i k) (Ev.pos (by omega) (Ev.pos (by omega) ?_))
    rw [rdL_at hi, drop_at hi, layL]
    have hr := hs_range keys[i]
    refine (rhash_ev (H.row _ (List.getElem_mem hi))).bind (Ev.neg (by omega) ?_)
    obtain ⟨a, ha, hz, hn⟩ := first_free hp (by rw [hc]; omega) (hN keys[i])
    have hw : wrap64 ((i : Int) + 1) = ((i + 1 : Nat) : Int) := by unfold Sh at hl; rw [w64 (by omega)]; rfl
    have hst : Int.tmod (wrap64 (hs keys[i])) (sl.length : Int) = (((hN keys[i] + 0) % sl.length : Nat) : Int) := by
      rw [w64 (by omega), Int.tmod_eq_emod_of_nonneg hr.1, Nat.add_zero, Int.natCast_emod, hN_hs]
    rw [hst]
    have hx : (hN keys[i] + a) % sl.length < sl.length := Nat.mod_lt _ hp
    refine rlay_l1 i hp h1 (hN keys[i]) ha hz hn ?_ a 0 (by omega)
    rw [hw, placeL_at hz sl.length 0 (by omega) (by omega) (fun q _ hq => hn q hq)]
    exact rlay_from H m (i + 1) _ (by omega) (by simpa using h0) (by simpa using h1) (by rw [nz_set hx (by rw [rd_at hx] at hz; exact hz) (by omega), hc])
theorem rlay_ev {keys : List (List Int)} (H : Keys keys) (hn : keys.length ≤ 6000) : Ev (fun k => tammyref02_Lay.f k keys) (layS keys) := by
  unfold tammyref02_Lay.f
  have hz := sizeN_spec hn
  refine (rsize_ev hn).bind (Ev.pos (by omega) (Ev.pos (by omega) ?_))
  rw [Int.toNat_natCast]
  exact rlay_from H keys.length 0 (List.replicate (sizeN keys.length) 0) (by omega) (by simp; omega) (by simp; omega) (nz_replicate _)

/-! ### Where a key is found in a table that is right -/
theorem layS_slots {keys : List (List Int)} (hn : keys.length ≤ 6000) (key : List Int) (x : Nat) (hx : x < (layS keys).length) : nAt (layS keys) x = rd (layS keys) (x : Int) - 1 ∧ 0 ≤ rd (layS keys) (x : Int) ∧ rd (layS keys) (x : Int) ≤ keys.length := by
  have := (layS_inv hn).1.rng x hx
  unfold nAt
  exact ⟨w64 (by omega), this.1, this.2⟩
theorem find_ev {keys : List (List Int)} (H : Keys keys) (hn : keys.length ≤ 6000) (hd : keys.Nodup) (key : List Int) (hk : Sh key) : Ev (fun k => hash_Find.f k keys (layS keys) key) (atI key keys 0) := by
  have hz := sizeN_spec hn
  obtain ⟨I, hl⟩ := layS_inv hn
  obtain ⟨K, hK⟩ := hash_ev hk
  refine ⟨max K 35184372088833, fun k hkk => ?_⟩
  have hr := hs_range key
  have hok : okF k keys (layS keys) key = true := by
    unfold okF
    rw [Bool.and_eq_true]
    refine ⟨List.all_eq_true.2 (fun s hs2 => ?_), List.all_eq_true.2 (fun q hq => ?_)⟩
    · obtain ⟨x, hx, rfl⟩ := List.getElem_of_mem hs2
      have := layS_slots hn key x hx
      rw [rd_at hx] at this
      rw [w64 (by omega)]
      exact decide_eq_true (by omega)
    · rw [equal_at (H.row q hq) (by omega)]; rfl
  show hash_Find.f k keys (layS keys) key = _
  unfold hash_Find.f
  rw [if_neg (by omega), if_pos (by omega), if_pos hok, show hash_Hash.f k key = some (hs key) from hK k (by omega)]
  simp only [Option.bind_some]
  rw [if_pos hr.1, if_pos hr.2]
  congr 1
  have hp : 0 < (layS keys).length := by omega
  have hhit : ∀ x, x < (layS keys).length → (hits k keys (layS keys) key x = true ↔ rd (layS keys) (x : Int) = 0 ∨ ∃ (j : Nat) (hj : j < keys.length), rd (layS keys) (x : Int) = (j : Int) + 1 ∧ keys[j] = key) := fun x hx => by
    have hs2 := layS_slots hn key x hx
    unfold hits
    by_cases e : rd (layS keys) (x : Int) = 0
    · simp [hs2.1, e]
    · obtain ⟨j, hj⟩ : ∃ j : Nat, rd (layS keys) (x : Int) = (j : Int) + 1 := ⟨(rd (layS keys) (x : Int) - 1).toNat, by omega⟩
      have hjl : j < keys.length := by omega
      have h1 : nAt (layS keys) x = (j : Int) := by rw [hs2.1, hj]; omega
      rw [h1, rdL_at hjl, equal_at (H.row _ (List.getElem_mem hjl)) (by omega)]
      have h2 : ¬ ((j : Int) < 0) := by omega
      simp only [h2, decide_false, Bool.false_or, beq_iff_eq, Option.some.injEq, decide_eq_true_eq]
      constructor
      · intro h; exact .inr ⟨j, hjl, hj, h⟩
      · rintro (h | ⟨j2, hj2, h3, h4⟩)
        · exact absurd h e
        · obtain rfl : j2 = j := by omega
          exact h4
  have hno : ∀ x, x < (layS keys).length → hits k keys (layS keys) key x ≠ true → hits k keys (layS keys) key x = false := fun x _ h => by simpa using h
  by_cases hm : key ∈ keys
  · obtain ⟨j, hj, hja, hje⟩ := atI_some hm
    obtain ⟨i, hi, hv, hnz⟩ := I.pos j hj
    rw [hje] at hv hnz
    obtain ⟨a, ha1, ha2, ha3⟩ := first_of (P := fun i => hits k keys (layS keys) key ((hN key + i) % (layS keys).length) = true) i ((hhit _ (Nat.mod_lt _ hp)).2 (.inr ⟨j, hj, hv, hje⟩))
    rw [findL_at ha2 _ 0 (by omega) (by omega) (fun q _ hq => hno _ (Nat.mod_lt _ hp) (ha3 q hq)), hja]
    rw [(layS_slots hn key _ (Nat.mod_lt _ hp)).1]
    rcases (hhit _ (Nat.mod_lt _ hp)).1 ha2 with h | ⟨j2, hj2, h3, h4⟩
    · rcases Nat.lt_or_ge a i with h5 | h5
      · exact absurd h (hnz a h5)
      · obtain rfl : a = i := by omega
        rw [hv] at h; omega
    · have : j2 = j := (List.getElem_inj hd).1 (h4.trans hje.symm)
      subst this
      rw [h3]; omega
  · rw [atI_none hm]
    by_cases hf : ∃ i, i < (layS keys).length ∧ hits k keys (layS keys) key ((hN key + i) % (layS keys).length) = true
    · obtain ⟨i, hi, hh⟩ := hf
      obtain ⟨a, ha1, ha2, ha3⟩ := first_of (P := fun i => hits k keys (layS keys) key ((hN key + i) % (layS keys).length) = true) i hh
      rw [findL_at ha2 _ 0 (by omega) (by omega) (fun q _ hq => hno _ (Nat.mod_lt _ hp) (ha3 q hq)), (layS_slots hn key _ (Nat.mod_lt _ hp)).1]
      rcases (hhit _ (Nat.mod_lt _ hp)).1 ha2 with h | ⟨j2, hj2, h3, h4⟩
      · rw [h]; rfl
      · exact absurd (h4 ▸ List.getElem_mem hj2) hm
    · exact findL_none _ _ (fun i _ hi => hno _ (Nat.mod_lt _ hp) (fun h => hf ⟨i, by omega, h⟩))

/-! ### A table with a key -/
def putS (keys : List (List Int)) (key : List Int) : List (List Int) × List Int × Int × Bool :=
  if 0 ≤ atI key keys 0 then (keys, layS keys, atI key keys 0, false) else (keys ++ [key], layS (keys ++ [key]), (keys.length : Int), true)
theorem Keys.snoc {keys : List (List Int)} (H : Keys keys) (hn : keys.length ≤ 6000) {key : List Int} (hk : Sh key) : Keys (keys ++ [key]) :=
  ⟨by unfold Sh; rw [List.length_append]; simp; omega, fun q hq => by
    rcases List.mem_append.1 hq with h | h
    · exact H.row q h
    · rw [List.mem_singleton.1 h]; exact hk⟩
theorem put_ev {keys : List (List Int)} (H : Keys keys) (hn : keys.length ≤ 5999) (hd : keys.Nodup) (key : List Int) (hk : key.length < 17592186044416) : Ev (fun k => hash_Put.f k keys (layS keys) key) (putS keys key) := by
  have hk2 : Sh key := by unfold Sh; omega
  unfold hash_Put.f putS
  refine (find_ev H (by omega) hd key hk2).bind ?_
  by_cases e : 0 ≤ atI key keys 0
  · rw [if_pos e]; exact Ev.pos e (Ev.now _)
  · rw [if_neg e]
    refine Ev.neg (by omega) (Ev.pos (by omega) (Ev.pos (by omega) ?_))
    have hl := (layS_inv (keys := keys) (by omega)).2
    have hz := sizeN_spec (n := keys.length) (by omega)
    have h1 : (keys ++ [key]).length = keys.length + 1 := by simp
    have hs1 := size_ev (n := keys.length + 1) (by omega)
    rw [show ((keys.length + 1 : Nat) : Int) = (keys.length : Int) + 1 from rfl] at hs1
    refine hs1.bind ?_
    by_cases e2 : sizeN (keys.length + 1) = sizeN keys.length
    · refine Ev.pos (by rw [hl, e2]) (Ev.pos (by omega) ?_)
      refine (place_ev (by omega) (by omega) hk2).bind ?_
      rw [w64 (by omega)]
      have : layS (keys ++ [key]) = placeL (layS keys) (hN key) ((keys.length : Int) + 1) (layS keys).length 0 := by
        unfold layS
        rw [h1, e2, layL_snoc]
        rw [Int.zero_add]
      rw [this]
      exact Ev.now _
    · refine Ev.neg (by rw [hl]; omega) ?_
      exact (lay_ev (H.snoc (by omega) hk2) (by omega)).bind (Ev.now _)
end Go.Proofs.Ytfjgfkokhnpbcaa.U
