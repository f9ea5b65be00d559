/- Plainly: the trees that stand in a right row of nodes: where each begins, where its parts end. -/
import Derived.Test.YtgbickkmfjngbaaPa
import Derived.Test.YtgbickkmfjngbaaGa
import Derived.Test.YtgbickkmfjngbaaKx7
import Derived.Test.YtgbickkmfjngbaaKx8
namespace Go.Proofs.Ytgbickkmfjngbaa.K
open Go.RowKit Go.Proofs.YtgbickkmfjngbaaW.PrintWords Go.Proofs.YtgbickkmfjngbaaW.PrintLast Go.Proofs.YtgbickkmfjngbaaG.Words
set_option linter.unusedVariables false
set_option linter.unusedSimpArgs false

/-- How many parts node i has. -/
def pN (e : List S38) (i : Nat) : Nat := if (rd_T38 e (i : Int)).f0 = 6 then 1 else (rd_T38 e (i : Int)).f2.toNat
/-- How many trees stand ahead of node i. -/
def dep (e : List S38) : Nat → Nat
  | 0 => 0
  | i + 1 => dep e i + 1 - pN e i
structure Fine (e : List S38) : Prop where
  len : e.length ≤ 600
  may : ∀ i, i < e.length → May (rd_T38 e (i : Int))
  fit : ∀ i, i < e.length → pN e i ≤ dep e i
  one : dep e e.length = 1
theorem Fine.pos {e : List S38} (h : Fine e) : 0 < e.length := by
  have := h.one
  rcases Nat.eq_zero_or_pos e.length with h0 | h0
  · rw [h0] at this; cases this
  · exact h0
theorem May.parts {e : List S38} {i : Nat} (h : May (rd_T38 e (i : Int))) : expr_parts.f (rd_T38 e i).f0 (rd_T38 e i).f1 (rd_T38 e i).f2 = some (pN e i : Int) ∧ tammyref07_Parts.f (rd_T38 e i).f0 (rd_T38 e i).f1 (rd_T38 e i).f2 = some (pN e i : Int) ∧ pN e i ≤ 8 := by
  unfold expr_parts.f tammyref07_Parts.f pN
  obtain ⟨_, h⟩ := h
  by_cases h6 : (rd_T38 e (i : Int)).f0 = 6
  · simp [h6]
  · have h2 : 0 ≤ (rd_T38 e (i : Int)).f2 ∧ (rd_T38 e (i : Int)).f2 ≤ 8 := by omega
    simp only [if_neg h6]; rw [Int.toNat_of_nonneg h2.1]
    exact ⟨rfl, rfl, by omega⟩

theorem rd_app_l {xs ys : List Int} {q : Int} (h0 : 0 ≤ q) (h1 : q < xs.length) : rd (xs ++ ys) q = rd xs q := by
  unfold rd
  rw [List.getD_eq_getElem?_getD, List.getD_eq_getElem?_getD, List.getElem?_append_left (by omega)]
theorem rd_app_at {xs ys : List Int} {x : Int} : rd (xs ++ x :: ys) xs.length = x := by
  unfold rd
  rw [List.getD_eq_getElem?_getD, Int.toNat_natCast, List.getElem?_append_right (by omega)]
  simp
theorem endAt_add (st : List Int) (e : Int) (p : Nat) : ∀ j, endAt st (endAt st e p) j = endAt st e (p + j)
  | 0 => rfl
  | j + 1 => by rw [endAt, endAt_add st e p j]; rfl
theorem endAt_app {st more : List Int} {e : Int} {m : Nat} (h : ∀ j, j < m → 0 ≤ endAt st e j ∧ endAt st e j < st.length) : ∀ j, j ≤ m → endAt (st ++ more) e j = endAt st e j
  | 0, _ => rfl
  | j + 1, hj => by
    rw [endAt, endAt, endAt_app h j (by omega), rd_app_l (h j (by omega)).1 (h j (by omega)).2]

def stL (e : List S38) : Nat → List Int
  | 0 => []
  | i + 1 => stL e i ++ [endAt (stL e i) ((i : Int) - 1) (pN e i) + 1]
theorem stL_len (e : List S38) : ∀ i, (stL e i).length = i
  | 0 => rfl
  | i + 1 => by rw [stL, List.length_append, stL_len e i]; rfl
theorem stL_pre (e : List S38) (i : Nat) : ∀ k, ∃ more, stL e (i + k) = stL e i ++ more
  | 0 => ⟨[], by simp⟩
  | k + 1 => by
    obtain ⟨m, h⟩ := stL_pre e i k
    exact ⟨m ++ [_], by rw [← Nat.add_assoc, stL, h, List.append_assoc]⟩
structure Ch (e : List S38) (st : List Int) (i : Nat) : Prop where
  rng : ∀ q : Nat, q < i → 0 ≤ rd st q ∧ rd st q ≤ q
  ch : ∀ j, j < dep e i → 0 ≤ endAt st ((i : Int) - 1) j ∧ endAt st ((i : Int) - 1) j < i
  bot : endAt st ((i : Int) - 1) (dep e i) = -1
theorem stL_ch {e : List S38} (F : Fine e) : ∀ i, i ≤ e.length → Ch e (stL e i) i
  | 0, _ => ⟨fun q hq => absurd hq (Nat.not_lt_zero q), fun j hj => absurd hj (Nat.not_lt_zero j), rfl⟩
  | i + 1, hi => by
    have I := stL_ch F i (by omega)
    have hl := stL_len e i
    have hp := F.fit i (by omega)
    have hn := F.len
    have hext : ∀ j, j ≤ dep e i → endAt (stL e (i + 1)) ((i : Int) - 1) j = endAt (stL e i) ((i : Int) - 1) j := fun j hj => by
      rw [stL]; exact endAt_app (m := dep e i) (fun j hj => by have := I.ch j hj; omega) j hj
    have hs : -1 ≤ endAt (stL e i) ((i : Int) - 1) (pN e i) ∧ endAt (stL e i) ((i : Int) - 1) (pN e i) < i := by
      rcases Nat.lt_or_ge (pN e i) (dep e i) with h | h
      · have := I.ch _ h; omega
      · have h2 : pN e i = dep e i := by omega
        rw [h2, I.bot]; omega
    have hlast : rd (stL e (i + 1)) (i : Int) = endAt (stL e i) ((i : Int) - 1) (pN e i) + 1 := by
      rw [stL]; have := rd_app_at (xs := stL e i) (ys := []) (x := endAt (stL e i) ((i : Int) - 1) (pN e i) + 1); rwa [hl] at this
    have hnext : ∀ j, j + pN e i ≤ dep e i → endAt (stL e (i + 1)) (i : Int) (j + 1) = endAt (stL e i) ((i : Int) - 1) (pN e i + j) := fun j hj => by
      rw [endAt_shift, hlast, show endAt (stL e i) ((i : Int) - 1) (pN e i) + 1 - 1 = endAt (stL e i) ((i : Int) - 1) (pN e i) by omega, w64 (by omega), ← hext _ hp, endAt_add, hext _ (by omega)]
    have hc : (((i + 1 : Nat) : Int) - 1) = (i : Int) := by omega
    refine ⟨fun q hq => ?_, fun j hj => ?_, ?_⟩
    · by_cases h : q = i
      · subst h; rw [hlast]; omega
      · rw [stL, rd_app_l (by omega) (by omega)]; exact I.rng q (by omega)
    · rw [hc]
      have hj : j < dep e i + 1 - pN e i := hj
      cases j with
      | zero => show 0 ≤ (i : Int) ∧ (i : Int) < ((i + 1 : Nat) : Int); omega
      | succ j => rw [hnext j (by omega)]; have := I.ch (pN e i + j) (by omega); omega
    · rw [hc]
      have hd : dep e (i + 1) = (dep e i - pN e i) + 1 := by show dep e i + 1 - pN e i = _; omega
      rw [hd, hnext _ (by omega), show pN e i + (dep e i - pN e i) = dep e i by omega, I.bot]
/-- All starts. -/
def St (e : List S38) : List Int := stL e e.length
theorem St_len (e : List S38) : (St e).length = e.length := stL_len e _
theorem St_app (e : List S38) {i : Nat} (hi : i ≤ e.length) : ∃ more, St e = stL e i ++ more := by
  obtain ⟨m, h⟩ := stL_pre e i (e.length - i)
  exact ⟨m, by rw [St, ← h]; congr 1; omega⟩
theorem St_rng {e : List S38} (F : Fine e) {q : Nat} (h : q < e.length) : 0 ≤ rd (St e) q ∧ rd (St e) q ≤ q := (stL_ch F e.length (Nat.le_refl _)).rng q h
theorem St_endAt {e : List S38} (F : Fine e) {i j : Nat} (hi : i ≤ e.length) (hj : j ≤ dep e i) : endAt (St e) ((i : Int) - 1) j = endAt (stL e i) ((i : Int) - 1) j := by
  obtain ⟨m, h⟩ := St_app e hi
  rw [h]
  exact endAt_app (m := dep e i) (fun j hj => by have := (stL_ch F i hi).ch j hj; rw [stL_len]; exact this) j hj
theorem St_ch {e : List S38} (F : Fine e) {i j : Nat} (hi : i ≤ e.length) (hj : j < dep e i) : 0 ≤ endAt (St e) ((i : Int) - 1) j ∧ endAt (St e) ((i : Int) - 1) j < i := by
  rw [St_endAt F hi (by omega)]; exact (stL_ch F i hi).ch j hj
theorem St_bot {e : List S38} (F : Fine e) {i : Nat} (hi : i ≤ e.length) : endAt (St e) ((i : Int) - 1) (dep e i) = -1 := by
  rw [St_endAt F hi (Nat.le_refl _)]; exact (stL_ch F i hi).bot
theorem St_at {e : List S38} (F : Fine e) {i : Nat} (hi : i < e.length) : rd (St e) i = endAt (St e) ((i : Int) - 1) (pN e i) + 1 := by
  obtain ⟨m, h⟩ := St_app e (i := i + 1) hi
  rw [St_endAt F (by omega) (F.fit i hi), h, rd_app_l (by omega) (by rw [stL_len]; omega), stL]
  have := rd_app_at (xs := stL e i) (ys := []) (x := endAt (stL e i) ((i : Int) - 1) (pN e i) + 1)
  rwa [stL_len] at this
/-- Where the j-th part of node i, from behind, stands. -/
def kd (e : List S38) (i j : Nat) : Nat := (endAt (St e) ((i : Int) - 1) j).toNat
theorem kd_is {e : List S38} (F : Fine e) {i j : Nat} (hi : i < e.length) (hj : j < pN e i) : endAt (St e) ((i : Int) - 1) j = kd e i j ∧ kd e i j < i := by
  have := St_ch F (i := i) (j := j) (by omega) (by have := F.fit i hi; omega)
  unfold kd
  omega
theorem kd_next {e : List S38} (F : Fine e) {i j : Nat} (hi : i < e.length) (hj : j < pN e i) : endAt (St e) ((i : Int) - 1) (j + 1) = rd (St e) (kd e i j) - 1 := by
  have h := kd_is F hi hj
  rw [endAt, h.1]
  have := St_rng F (q := kd e i j) (by omega)
  have := F.len
  exact w64 (by omega)

/-! ### The programs' starts and parts -/
theorem Starts_l1 {e : List S38} (F : Fine e) {i : Nat} (hi : i < e.length) {r : List Int} (K : Ev (fun k => tammyref07_Starts.l0 k e (stL e (i + 1)) ((i + 1 : Nat) : Int)) r) :
    ∀ (m j : Nat), j + m = pN e i → Ev (fun k => tammyref07_Starts.l1 k e (stL e i) (i : Int) (endAt (stL e i) ((i : Int) - 1) j + 1) (j : Int)) r
  | m, j, hm => by
    have hp := (F.may i hi).parts
    have hn := F.len
    have C := stL_ch F i (by omega)
    have hl := stL_len e i
    have hf := F.fit i hi
    refine Ev.step (fun k => tammyref07_Starts.l1.eq_2 _ _ _ _ _ k) ?_
    refine Ev.pos (by omega) (Ev.pos (by omega) (Ev.pure hp.2.1 ?_))
    cases m with
    | succ m =>
      have c := C.ch j (by omega)
      refine Ev.pos (by omega) ?_
      have e1 : wrap64 (endAt (stL e i) ((i : Int) - 1) j + 1 - 1) = endAt (stL e i) ((i : Int) - 1) j := by
        rw [show endAt (stL e i) ((i : Int) - 1) j + 1 - 1 = endAt (stL e i) ((i : Int) - 1) j by omega]; exact w64 (by omega)
      rw [e1]
      refine Ev.pos c.1 (Ev.pos (by omega) ?_)
      rw [w64 (n := (j : Int) + 1) (by omega)]
      have e2 : rd (stL e i) (endAt (stL e i) ((i : Int) - 1) j) = endAt (stL e i) ((i : Int) - 1) (j + 1) + 1 := by
        have h1 : (((endAt (stL e i) ((i : Int) - 1) j).toNat : Nat) : Int) = endAt (stL e i) ((i : Int) - 1) j := by omega
        have := C.rng (endAt (stL e i) ((i : Int) - 1) j).toNat (by omega)
        rw [h1] at this
        rw [endAt, w64 (by omega)]; omega
      rw [e2]
      exact Starts_l1 F hi K m (j + 1) (by omega)
    | zero =>
      refine Ev.neg (by omega) (Ev.pos (by omega) ?_)
      have e1 : stL e i ++ [endAt (stL e i) ((i : Int) - 1) j + 1] = stL e (i + 1) := by rw [stL, show j = pN e i by omega]
      rw [w64 (n := (i : Int) + 1) (by omega), e1]
      exact K
theorem Starts_l0 {e : List S38} (F : Fine e) : ∀ (m i : Nat), i + m = e.length → Ev (fun k => tammyref07_Starts.l0 k e (stL e i) (i : Int)) (St e)
  | m, i, hm => by
    refine Ev.step (fun k => tammyref07_Starts.l0.eq_2 _ _ _ k) ?_
    cases m with
    | zero =>
      refine Ev.neg (by omega) ?_
      rw [show i = e.length by omega]; exact Ev.now _
    | succ m =>
      refine Ev.pos (by omega) ?_
      have := Starts_l1 F (i := i) (by omega) (Starts_l0 F m (i + 1) (by omega)) (pN e i) 0 (by omega)
      rw [endAt] at this
      rw [show (i : Int) - 1 + 1 = (i : Int) by omega] at this
      exact this
theorem Starts_is {e : List S38} (F : Fine e) : Ev (fun k => tammyref07_Starts.f k e) (St e) := by
  unfold tammyref07_Starts.f
  exact Starts_l0 F e.length 0 (by omega)

/-- The parts of a node. -/
def kids (e : List S38) (i : Nat) : List Int := ((List.range (pN e i)).map (endAt (St e) ((i : Int) - 1))).reverse
theorem kidsL_all {st : List Int} : ∀ {k : Nat} {e : Int} {acc : List Int}, (∀ j, j < k → 0 ≤ endAt st e j ∧ endAt st e j < (st.length : Int)) → kidsL st k e acc = some (((List.range k).map (endAt st e)).reverse ++ acc)
  | 0, e, acc, h => rfl
  | k + 1, e, acc, h => by
    have h0 := h 0 (by omega)
    rw [endAt] at h0
    have ih := kidsL_all (st := st) (k := k) (e := wrap64 (rd st e - 1)) (acc := e :: acc) (fun j hj => by rw [← endAt_shift]; exact h (j + 1) (by omega))
    rw [kidsL, if_pos h0.1, if_pos h0.2, ih, List.range_succ_eq_map]
    simp only [List.map_cons, List.map_map, List.reverse_cons, List.append_assoc, List.singleton_append]
    congr 2
    have : (List.range k).map (endAt st (wrap64 (rd st e - 1))) = (List.range k).map (endAt st e ∘ Nat.succ) := List.map_congr_left (fun j _ => (endAt_shift st e j).symm)
    rw [this]
theorem startsL_is {e : List S38} (F : Fine e) : ∀ (k j : Nat), j + k = e.length → startsL e k j (stL e j ++ List.replicate k 0) = some (St e)
  | 0, j, h => by rw [startsL, List.replicate_zero, List.append_nil, show j = e.length by omega]; rfl
  | k + 1, j, h => by
    have hj : j < e.length := by omega
    have hp := (F.may j hj).parts
    have hn := F.len
    have hl := stL_len e j
    have hf := F.fit j hj
    have C := stL_ch F j (by omega)
    have hset : (stL e j ++ List.replicate (k + 1) (0 : Int)).set j (j : Int) = stL e j ++ (j : Int) :: List.replicate k 0 := by
      rw [List.set_append_right _ _ (by omega), hl, Nat.sub_self, List.replicate_succ]; rfl
    have hends : ∀ t, t ≤ dep e j → endAt (stL e j ++ (j : Int) :: List.replicate k 0) ((j : Int) - 1) t = endAt (stL e j) ((j : Int) - 1) t := endAt_app (m := dep e j) (fun t ht => by have := C.ch t ht; omega)
    have hk : expr_kids.f e (stL e j ++ (j : Int) :: List.replicate k 0) (j : Int) = some (((List.range (pN e j)).map (endAt (stL e j ++ (j : Int) :: List.replicate k 0) ((j : Int) - 1))).reverse ++ []) := by
      unfold expr_kids.f
      rw [if_pos (by omega), if_pos (by omega), hp.1, Option.bind_some, if_pos (by omega), if_pos (by omega), w64 (by omega), Int.toNat_natCast]
      refine kidsL_all (fun t ht => ?_)
      rw [hends t (by omega)]
      have := C.ch t (by omega)
      simp only [List.length_append, List.length_cons, List.length_replicate]
      omega
    rw [startsL, hset, hk, Option.bind_some, List.append_nil]
    by_cases hz : pN e j = 0
    · rw [if_neg (by simp [hz])]
      have := startsL_is F k (j + 1) (by omega)
      rw [stL, hz, endAt, show (j : Int) - 1 + 1 = (j : Int) by omega, List.append_assoc] at this
      exact this
    · obtain ⟨p, hpp⟩ : ∃ p, pN e j = p + 1 := ⟨pN e j - 1, by omega⟩
      have hr : rd ((List.range (pN e j)).map (endAt (stL e j ++ (j : Int) :: List.replicate k 0) ((j : Int) - 1))).reverse 0 = endAt (stL e j) ((j : Int) - 1) p := by
        rw [hpp, List.range_succ, List.map_append, List.reverse_append, ← hends p (by omega)]; rfl
      have c := C.ch p (by omega)
      rw [if_pos (by simp; omega), hr, if_pos c.1, if_pos (by simp only [List.length_append, List.length_replicate]; omega)]
      have e2 : rd (stL e j ++ (j : Int) :: List.replicate k 0) (endAt (stL e j) ((j : Int) - 1) p) = endAt (stL e j) ((j : Int) - 1) (p + 1) + 1 := by
        rw [rd_app_l c.1 (by omega)]
        have h1 : (((endAt (stL e j) ((j : Int) - 1) p).toNat : Nat) : Int) = endAt (stL e j) ((j : Int) - 1) p := by omega
        have := C.rng (endAt (stL e j) ((j : Int) - 1) p).toNat (by omega)
        rw [h1] at this
        rw [endAt, w64 (by omega)]; omega
      rw [e2]
      have := startsL_is F k (j + 1) (by omega)
      rw [stL, hpp, List.append_assoc] at this
      rw [List.set_append_right _ _ (by omega), hl, Nat.sub_self]
      exact this
theorem expr_Starts_is {e : List S38} (F : Fine e) : expr_Starts.f e = some (St e) := by
  have := F.len
  unfold expr_Starts.f
  rw [if_pos (by omega)]
  exact startsL_is F e.length 0 (by omega)
theorem Kids_l1 (xs : List Int) (hl : xs.length ≤ 600) : ∀ (m : Nat), m ≤ xs.length → Ev (fun k => tammyref07_Kids.l1 k xs ((xs.drop m).reverse) ((m : Int) - 1)) xs.reverse
  | m, hm => by
    refine Ev.step (fun k => tammyref07_Kids.l1.eq_2 _ _ _ k) ?_
    cases m with
    | zero => exact Ev.neg (by omega) (Ev.now _)
    | succ m =>
      refine Ev.pos (by omega) (Ev.pos (by omega) (Ev.pos (by omega) (Ev.pos (by simp; omega) ?_)))
      have e1 : (((m + 1 : Nat) : Int) - 1) = (m : Int) := by omega
      have e2 : (xs.drop (m + 1)).reverse ++ [rd xs ((m : Nat) : Int)] = (xs.drop m).reverse := by
        rw [List.drop_eq_getElem_cons (l := xs) (i := m) (by omega), List.reverse_cons]
        congr 2
        unfold rd
        rw [List.getD_eq_getElem?_getD, Int.toNat_natCast, List.getElem?_eq_getElem (by omega)]; rfl
      rw [e1, e2, w64 (by omega)]
      exact Kids_l1 xs hl m (by omega)
theorem Kids_l0 {e : List S38} (F : Fine e) {i : Nat} (hi : i < e.length) : ∀ (m j : Nat), j + m = pN e i →
    Ev (fun k => tammyref07_Kids.l0 k e (St e) (i : Int) ((List.range j).map (endAt (St e) ((i : Int) - 1))) (endAt (St e) ((i : Int) - 1) j) (j : Int)) (kids e i)
  | m, j, hm => by
    have hp := (F.may i hi).parts
    have hn := F.len
    refine Ev.step (fun k => tammyref07_Kids.l0.eq_2 _ _ _ _ _ _ k) ?_
    refine Ev.pos (by omega) (Ev.pos (by omega) (Ev.pure hp.2.1 ?_))
    cases m with
    | succ m =>
      have c := kd_is F hi (j := j) (by omega)
      refine Ev.pos (by omega) (Ev.pos (by simp; omega) (Ev.pos (by omega) (Ev.pos (by rw [St_len]; omega) ?_)))
      have e1 : (List.range j).map (endAt (St e) ((i : Int) - 1)) ++ [endAt (St e) ((i : Int) - 1) j] = (List.range (j + 1)).map (endAt (St e) ((i : Int) - 1)) := by rw [List.range_succ, List.map_append]; rfl
      rw [e1, w64 (n := (j : Int) + 1) (by omega)]
      exact Kids_l0 F hi m (j + 1) (by omega)
    | zero =>
      refine Ev.neg (by omega) ?_
      rw [show j = pN e i by omega, w64 (by simp; omega)]
      have := Kids_l1 ((List.range (pN e i)).map (endAt (St e) ((i : Int) - 1))) (by simp; omega) ((List.range (pN e i)).map (endAt (St e) ((i : Int) - 1))).length (Nat.le_refl _)
      rw [List.drop_length] at this
      exact this
theorem Kids_is {e : List S38} (F : Fine e) {i : Nat} (hi : i < e.length) : Ev (fun k => tammyref07_Kids.f k e (St e) (i : Int)) (kids e i) := by
  have hn := F.len
  unfold tammyref07_Kids.f
  rw [w64 (by omega)]
  exact Kids_l0 F hi (pN e i) 0 (by omega)
theorem kids_len (e : List S38) (i : Nat) : (kids e i).length = pN e i := by simp [kids]
theorem kids_at {e : List S38} (F : Fine e) {i : Nat} (hi : i < e.length) {j : Nat} (hj : j < pN e i) : rd (kids e i) (j : Int) = (kd e i (pN e i - 1 - j) : Int) := by
  rw [← (kd_is F hi (j := pN e i - 1 - j) (by omega)).1]
  unfold rd kids
  rw [List.getD_eq_getElem?_getD, Int.toNat_natCast, List.getElem?_reverse (by simpa using hj)]
  simp [List.getElem?_map, List.getElem?_range, show pN e i - 1 - j < pN e i by omega]
end Go.Proofs.Ytgbickkmfjngbaa.K
