/- Plainly: the sides: both programs write the same row, stage by stage. -/
import Derived.Test.YtgbickkmfjngbaaPd
import Derived.Test.YtgbickkmfjngbaaGd
namespace Go.Proofs.Ytgbickkmfjngbaa.K
open Go.RowKit Go.Proofs.YtgbickkmfjngbaaW.PrintWords Go.Proofs.YtgbickkmfjngbaaW.PrintLast Go.Proofs.YtgbickkmfjngbaaG.Words
set_option linter.unusedVariables false
set_option linter.unusedSimpArgs false

/-- The parts a name's constructor has. -/
def argsOf (l : List S52) (x : S38) : ByteArray := (rd_T52 l (findI x.f1 l 0)).f1
/-- How the part k of a node varies. -/
def vspec (l : List S52) (x : S38) (k : Int) : Int :=
  if x.f0 = 4 ∨ x.f0 = 5 then 43 else if findI x.f1 l 0 < 0 then 61
  else if x.f0 = 3 then (if ((argsOf l x).size : Int) = x.f2 then bt (argsOf l x) k else 61)
  else if x.f2 ≤ ((argsOf l x).size : Int) then bt (argsOf l x) (x.f2 - 1) else 61
/-- The side of a part. -/
def tspec (s v : Int) : Int := if v = 43 then s else if v = 45 then (if s = 76 then 82 else if s = 82 then 76 else 66) else 66
def G3 (s : Int) : Prop := s = 76 ∨ s = 82 ∨ s = 66
theorem tspec_good {s v : Int} (h : G3 s) : G3 (tspec s v) := by
  unfold tspec G3 at *
  by_cases h1 : v = 43 <;> by_cases h2 : v = 45 <;> rcases h with rfl | rfl | rfl <;> simp [h1, h2]
theorem turned_is {s v : Int} (h : G3 s) : side_turned.f s v = some (tspec s v) := by
  unfold side_turned.f tspec G3 at *
  by_cases h1 : v = 43 <;> by_cases h2 : v = 45 <;> rcases h with rfl | rfl | rfl <;> simp [h1, h2]
/-! ### Writing the parts' sides -/
def wr (e : List S38) (i : Nat) (f : Nat → Int) : Nat → List Int → List Int
  | 0, out => out
  | m + 1, out => (wr e i f m out).set (kd e i m) (f m)
theorem wr_len (e : List S38) (i : Nat) (f : Nat → Int) (out : List Int) : ∀ m, (wr e i f m out).length = out.length
  | 0 => rfl
  | m + 1 => by rw [wr, List.length_set, wr_len e i f out m]
theorem rd_set_eq {xs : List Int} {q : Nat} {v : Int} (h : q < xs.length) : rd (xs.set q v) (q : Int) = v := by
  unfold rd
  rw [List.getD_eq_getElem?_getD, Int.toNat_natCast, List.getElem?_set_self h]; rfl
theorem rd_set_ne {xs : List Int} {q x : Nat} {v : Int} (h : q ≠ x) : rd (xs.set q v) (x : Int) = rd xs (x : Int) := by
  unfold rd
  rw [List.getD_eq_getElem?_getD, List.getD_eq_getElem?_getD, Int.toNat_natCast, List.getElem?_set_ne h]
theorem rd_ext {xs ys : List Int} (hl : xs.length = ys.length) (h : ∀ x : Nat, x < xs.length → rd xs (x : Int) = rd ys (x : Int)) : xs = ys := by
  refine List.ext_getElem hl (fun j h1 h2 => ?_)
  have := h j h1
  unfold rd at this
  rw [List.getD_eq_getElem?_getD, List.getD_eq_getElem?_getD, Int.toNat_natCast, List.getElem?_eq_getElem h1, List.getElem?_eq_getElem h2] at this
  exact this
theorem kd_lt {e : List S38} (F : Fine e) {i : Nat} (hi : i < e.length) {j : Nat} (hj : j + 1 < pN e i) : kd e i (j + 1) < kd e i j := by
  have h1 := kd_is F hi (j := j) (by omega)
  have h2 := kd_is F hi hj
  have h3 := kd_next F hi (j := j) (by omega)
  have h4 := St_rng F (q := kd e i j) (by omega)
  rw [h2.1] at h3
  omega
theorem kd_inj {e : List S38} (F : Fine e) {i : Nat} (hi : i < e.length) : ∀ {a b : Nat}, a < b → b < pN e i → kd e i b < kd e i a
  | a, 0, h, _ => absurd h (Nat.not_lt_zero a)
  | a, b + 1, h, hb => by
    have := kd_lt F hi hb
    by_cases e1 : a = b
    · rw [e1]; exact this
    · have := kd_inj F hi (a := a) (b := b) (by omega) (by omega); omega
theorem wr_at {e : List S38} (F : Fine e) {i : Nat} (hi : i < e.length) {f : Nat → Int} {out : List Int} (hl : out.length = e.length) : ∀ {m j : Nat}, m ≤ pN e i → j < m → rd (wr e i f m out) (kd e i j : Int) = f j
  | 0, j, _, h => absurd h (Nat.not_lt_zero j)
  | m + 1, j, hm, h => by
    have k := kd_is F hi (j := m) (by omega)
    rw [wr]
    by_cases e1 : j = m
    · rw [e1]; exact rd_set_eq (by rw [wr_len]; omega)
    · have := kd_inj F hi (a := j) (b := m) (by omega) (by omega)
      rw [rd_set_ne (by omega)]
      exact wr_at F hi hl (by omega) (by omega)
theorem wr_else {e : List S38} {i : Nat} {f : Nat → Int} {out : List Int} {x : Nat} : ∀ {m : Nat}, (∀ j, j < m → kd e i j ≠ x) → rd (wr e i f m out) (x : Int) = rd out (x : Int)
  | 0, _ => rfl
  | m + 1, h => by
    rw [wr, rd_set_ne (h m (by omega))]
    exact wr_else (fun j hj => h j (by omega))
theorem wr_up {e : List S38} (F : Fine e) {i : Nat} (hi : i < e.length) {f : Nat → Int} {out : List Int} {x m : Nat} (hm : m ≤ pN e i) (hx : i ≤ x) : rd (wr e i f m out) (x : Int) = rd out (x : Int) :=
  wr_else (fun j hj => by have := kd_is F hi (j := j) (by omega); omega)
/-- One stage: the sides of node i's parts. -/
def stg (l : List S52) (e : List S38) (i : Nat) (out : List Int) : List Int := wr e i (fun j => tspec (rd out i) (vspec l (rd_T38 e (i : Int)) (pN e i - 1 - j : Nat))) (pN e i) out
def allS (l : List S52) (e : List S38) : Nat → List Int → List Int
  | 0, out => out
  | i + 1, out => allS l e i (stg l e i out)
def norm (a : Int) : Int := if a = 76 then 76 else if a = 82 then 82 else 66
theorem norm_good (a : Int) : G3 (norm a) := by unfold norm G3; split <;> (try split) <;> simp
def init (e : List S38) (a : Int) : List Int := (List.replicate e.length 0).set (e.length - 1) (norm a)
def sides (l : List S52) (e : List S38) (a : Int) : List Int := allS l e e.length (init e a)
theorem stg_len (l : List S52) (e : List S38) (i : Nat) (out : List Int) : (stg l e i out).length = out.length := wr_len _ _ _ _ _
theorem allS_len (l : List S52) (e : List S38) : ∀ i out, (allS l e i out).length = out.length
  | 0, out => rfl
  | i + 1, out => by rw [allS, allS_len l e i, stg_len]
theorem sides_len (l : List S52) (e : List S38) (a : Int) : (sides l e a).length = e.length := by rw [sides, allS_len, init, List.length_set, List.length_replicate]
/-- Where trees of the first i nodes end, a side stands already. -/
structure Top (e : List S38) (i : Nat) (out : List Int) : Prop where
  len : out.length = e.length
  good : ∀ j, j < dep e i → G3 (rd out (endAt (St e) ((i : Int) - 1) j))
theorem Top.at_ {e : List S38} (F : Fine e) {i : Nat} (hi : i < e.length) {out : List Int} (T : Top e (i + 1) out) : G3 (rd out (i : Int)) := by
  have hf := F.fit i hi
  have h := T.good 0 (by show 0 < dep e i + 1 - pN e i; omega)
  rwa [endAt, show ((i + 1 : Nat) : Int) - 1 = (i : Int) by omega] at h
theorem Top.init {e : List S38} (F : Fine e) (a : Int) : Top e e.length (init e a) := by
  have hp := F.pos
  refine ⟨by rw [K.init, List.length_set, List.length_replicate], fun j hj => ?_⟩
  rw [F.one] at hj
  obtain rfl : j = 0 := by omega
  rw [endAt, K.init, show ((e.length : Int) - 1) = ((e.length - 1 : Nat) : Int) by omega, rd_set_eq (by rw [List.length_replicate]; omega)]
  exact norm_good a
theorem end_up {e : List S38} (F : Fine e) {i : Nat} (hi : i < e.length) {j : Nat} (hj : pN e i ≤ j) (hd : j ≤ dep e i) : endAt (St e) ((i : Int) - 1) j = endAt (St e) (((i + 1 : Nat) : Int) - 1) (j - pN e i + 1) := by
  have hn := F.len
  have h2 := St_rng F hi
  have h1 := St_at F hi
  rw [endAt_shift, show (((i + 1 : Nat) : Int) - 1) = (i : Int) by omega, h1, show endAt (St e) ((i : Int) - 1) (pN e i) + 1 - 1 = endAt (St e) ((i : Int) - 1) (pN e i) by omega, w64 (by omega), endAt_add]
  congr 1
  omega
theorem Top.stg {e : List S38} (F : Fine e) {l : List S52} {i : Nat} (hi : i < e.length) {out : List Int} (T : Top e (i + 1) out) : Top e i (stg l e i out) := by
  have hf := F.fit i hi
  have hg := T.at_ F hi
  refine ⟨by rw [stg_len]; exact T.len, fun j hj => ?_⟩
  have hc := St_ch F (i := i) (j := j) (by omega) hj
  by_cases hk : ∃ q, q < pN e i ∧ (kd e i q : Int) = endAt (St e) ((i : Int) - 1) j
  · obtain ⟨q, hq, hqe⟩ := hk
    rw [← hqe]
    unfold K.stg
    rw [wr_at F hi T.len (Nat.le_refl _) hq]
    exact tspec_good hg
  · have hjp : pN e i ≤ j := by
      rcases Nat.lt_or_ge j (pN e i) with h | h
      · exact absurd ⟨j, h, (kd_is F hi h).1.symm⟩ hk
      · exact h
    have hx : endAt (St e) ((i : Int) - 1) j = ((endAt (St e) ((i : Int) - 1) j).toNat : Int) := by omega
    have h2 := T.good (j - pN e i + 1) (by show j - pN e i + 1 < dep e i + 1 - pN e i; omega)
    rw [← end_up F hi hjp (by omega)] at h2
    rw [hx] at h2 ⊢
    unfold K.stg
    rw [wr_else (fun q hq h => hk ⟨q, hq, by omega⟩)]
    exact h2

/-! ### side.Of -/
theorem rdN (e : List S38) (i : Nat) : pN e i = if (rd_T38 e (i : Int)).f0 = 6 then 1 else (rd_T38 e (i : Int)).f2.toNat := rfl
theorem inner_is {l : List S52} {e : List S38} (F : Fine e) {i : Nat} (hi : i < e.length) {out : List Int} (T : Top e (i + 1) out) {vary : Int → Option Int} (hv : ∀ k : Nat, k < pN e i → vary (k : Int) = some (vspec l (rd_T38 e (i : Int)) (k : Int))) :
    ∀ (k m : Nat), m + k = pN e i → innerL (St e) vary i k (endAt (St e) ((i : Int) - 1) m) (wr e i (fun j => tspec (rd out i) (vspec l (rd_T38 e (i : Int)) (pN e i - 1 - j : Nat))) m out) = some (stg l e i out)
  | 0, m, h => by rw [innerL, stg, show m = pN e i by omega]
  | k + 1, m, h => by
    have kk := kd_is F hi (j := m) (by omega)
    have hw := wr_len e i (fun j => tspec (rd out i) (vspec l (rd_T38 e (i : Int)) (pN e i - 1 - j : Nat))) out m
    have hT := T.len
    rw [innerL, kk.1, if_pos (by omega), if_pos (by omega), if_pos (by rw [St_len]; omega), hv k (by omega), Option.bind_some, wr_up F hi (by omega) (Nat.le_refl _), turned_is (T.at_ F hi), Option.bind_some]
    have ih := inner_is F hi T hv k (m + 1) (by omega)
    rw [endAt, kk.1, wr, show pN e i - 1 - m = k by omega] at ih
    rw [Int.toNat_natCast]
    exact ih
theorem bt_extract {s : ByteArray} {a b : Nat} (hab : a < b) (hb : b ≤ s.size) : bt (s.extract a b) 0 = bt s (a : Int) := by
  unfold bt
  have h1 : (0 : Int).toNat < (s.extract a b).size := by rw [ByteArray.size_extract]; show 0 < _; omega
  have h2 : ((a : Int)).toNat < s.size := by rw [Int.toNat_natCast]; omega
  rw [dif_pos h1, dif_pos h2]
  simp [ByteArray.getElem_extract]
theorem parts_is {l : List S52} (hl : l.length ≤ 64) {x : S38} (hx : x.f0 = 3 ∨ x.f0 = 6) (hM : May x) : ∃ p is, side_parts.f l x.f0 x.f1 x.f2 = some (p, is) ∧
    ∀ k : Nat, (x.f0 = 3 → (k : Int) < x.f2) → (x.f0 = 6 → k = 0) → varyAt true p is (k : Int) = some (vspec l x (k : Int)) := by
  have hin := findI_in x.f1 l 0
  unfold side_parts.f sig_Find.f vspec varyAt
  have h45 : ¬ (x.f0 = 4 ∨ x.f0 = 5) := by omega
  simp only [Option.bind_some, if_neg h45]
  by_cases hn : findI x.f1 l 0 < 0
  · rw [if_pos hn]
    exact ⟨_, _, rfl, fun k _ _ => by simp [hn]⟩
  · have h0 : 0 ≤ findI x.f1 l 0 := by omega
    have h1 : findI x.f1 l 0 < (l.length : Int) := by omega
    simp only [if_neg hn, if_pos h0, if_pos h1]
    show ∃ p is, (if x.f0 = 3 then some (argsOf l x, ((argsOf l x).size : Int) == x.f2) else _) = some (p, is) ∧ _
    by_cases h3 : x.f0 = 3
    · refine ⟨_, _, if_pos h3, fun k hk _ => ?_⟩
      rw [if_pos h3]
      by_cases hs : ((argsOf l x).size : Int) = x.f2
      · have := hk h3
        simp only [hs, beq_self_eq_true, if_true]
        rw [if_pos (by omega), if_pos (by omega)]
      · simp [hs]
    · have h6 : x.f0 = 6 := by omega
      have hN : 1 ≤ x.f2 ∧ x.f2 ≤ 8 := by have := hM.2; omega
      have hw : wrap64 (x.f2 - 1) = x.f2 - 1 := w64 (by omega)
      simp only [if_neg h3, hw]
      show ∃ p is, (if x.f2 ≤ ((argsOf l x).size : Int) then _ else _) = some (p, is) ∧ _
      by_cases hs : x.f2 ≤ ((argsOf l x).size : Int)
      · simp only [if_pos hs]
        rw [if_pos (by omega), if_pos (by omega)]
        refine ⟨_, _, rfl, fun k _ hk => ?_⟩
        obtain rfl := hk h6
        have hz : (((argsOf l x).extract (x.f2 - 1).toNat x.f2.toNat).size : Int) = 1 := by rw [ByteArray.size_extract]; omega
        rw [if_pos trivial, if_pos rfl, if_pos (by decide), if_pos (show ((0 : Nat) : Int) < (((rd_T52 l (findI x.f1 l 0)).f1.extract (x.f2 - 1).toNat x.f2.toNat).size : Int) by show _ < (((argsOf l x).extract (x.f2 - 1).toNat x.f2.toNat).size : Int); rw [hz]; decide)]
        show some (bt ((argsOf l x).extract (x.f2 - 1).toNat x.f2.toNat) 0) = _
        rw [bt_extract (by omega) (by omega), Int.toNat_of_nonneg (by omega)]
      · rw [if_neg hs]
        exact ⟨_, _, rfl, fun k _ _ => by simp [hs]⟩
theorem round_is {l : List S52} (hl : l.length ≤ 64) {e : List S38} (F : Fine e) {i : Nat} (hi : i < e.length) {out : List Int} (T : Top e (i + 1) out) : roundL l e (St e) i out = some (stg l e i out) := by
  have hM := F.may i hi
  have h2 : 0 ≤ (rd_T38 e (i : Int)).f2 ∧ (rd_T38 e (i : Int)).f2 ≤ 8 := by have := hM.2; omega
  have hp := rdN e i
  unfold roundL
  rw [if_pos h2.1, if_pos (by omega)]
  by_cases h6 : (rd_T38 e (i : Int)).f0 = 6
  · rw [if_pos h6] at hp
    obtain ⟨p, is, hps, hv⟩ := parts_is hl (.inr h6) hM
    rw [if_pos h6, hps, Option.bind_some]
    have := inner_is (l := l) F hi T (vary := varyAt true p is) (fun k hk => hv k (fun h3 => by omega) (fun _ => by omega)) 1 0 (by omega)
    exact this
  · rw [if_neg h6] at hp ⊢
    by_cases h3 : (rd_T38 e (i : Int)).f0 = 3
    · obtain ⟨p, is, hps, hv⟩ := parts_is hl (.inl h3) hM
      rw [if_pos h3, hps, Option.bind_some]
      have := inner_is (l := l) F hi T (vary := varyAt true p is) (fun k hk => hv k (fun _ => by omega) (fun h => absurd h h6)) (rd_T38 e (i : Int)).f2.toNat 0 (by omega)
      exact this
    · rw [if_neg h3]
      have := inner_is (l := l) F hi T (vary := varyAt false ByteArray.empty false) (fun k hk => by
        have h45 : (rd_T38 e (i : Int)).f0 = 4 ∨ (rd_T38 e (i : Int)).f0 = 5 := by have := hM.2; omega
        unfold varyAt vspec; rw [if_pos h45]; rfl) (rd_T38 e (i : Int)).f2.toNat 0 (by omega)
      exact this
theorem ofL_is {l : List S52} (hl : l.length ≤ 64) {e : List S38} (F : Fine e) : ∀ (i : Nat) (out : List Int), i ≤ e.length → Top e i out → ofL l e (St e) i out = some (allS l e i out)
  | 0, out, _, _ => rfl
  | i + 1, out, hi, T => by
    rw [ofL, round_is hl F hi T, Option.bind_some, allS]
    exact ofL_is hl F i _ (by omega) (T.stg F hi)
theorem side_Of_is {l : List S52} (hl : l.length ≤ 64) {e : List S38} (F : Fine e) (a : Int) : side_Of.f l e a = some (sides l e a) := by
  have hn := F.len
  unfold side_Of.f
  rw [expr_Starts_is F, Option.bind_some, if_pos F.pos, if_pos (by omega), if_pos (St_len e)]
  exact ofL_is hl F e.length _ (Nat.le_refl _) (Top.init F a)

end Go.Proofs.Ytgbickkmfjngbaa.K
