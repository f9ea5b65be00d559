/- Plainly: the text of right nodes comes to an end; Right and tammylaw08.of do. -/
import Derived.Test.YtgbickkmfjngbaaPb
import Derived.Test.YtgbickkmfjngbaaKx9
import Derived.Test.YtgbickkmfjngbaaKx10
namespace Go.Proofs.Ytgbickkmfjngbaa.K
open Go.RowKit Go.Proofs.YtgbickkmfjngbaaW.PrintWords Go.Proofs.YtgbickkmfjngbaaW.PrintLast Go.Proofs.YtgbickkmfjngbaaG.Words
set_option linter.unusedVariables false
set_option linter.unusedSimpArgs false

/-- How much text nodes may bring. -/
def wt (e : List S38) : Nat → Nat
  | 0 => 0
  | i + 1 => wt e i + ((rd_T38 e (i : Int)).f1.size + 10)
theorem wt_le {e : List S38} (F : Fine e) : ∀ i, i ≤ e.length → wt e i ≤ 30 * i
  | 0, _ => Nat.le_refl _
  | i + 1, h => by
    have := wt_le F i (by omega)
    have := (F.may i h).1
    rw [wt]; omega
theorem wt_mono (e : List S38) : ∀ {i j : Nat}, i ≤ j → wt e i ≤ wt e j
  | i, 0, h => by rw [show i = 0 by omega]; exact Nat.le_refl _
  | i, j + 1, h => by
    by_cases e1 : i = j + 1
    · rw [e1]; exact Nat.le_refl _
    · have := wt_mono e (i := i) (j := j) (by omega); rw [wt]; omega
abbrev tx (xs : List ByteArray) (q : Int) : ByteArray := rdOf ByteArray.empty xs q
def sumE (e : List S38) (xs : List ByteArray) (i : Nat) : Nat → Nat
  | 0 => 0
  | j + 1 => sumE e xs i j + (tx xs (kd e i j)).size
structure TB (e : List S38) (i : Nat) (xs : List ByteArray) : Prop where
  len : xs.length = i
  le : ∀ q : Nat, q < i → (tx xs q).size + wt e (rd (St e) q).toNat ≤ wt e (q + 1)
theorem sumE_le {e : List S38} (F : Fine e) {i : Nat} (hi : i < e.length) {xs : List ByteArray} (T : TB e i xs) : ∀ j, j ≤ pN e i → sumE e xs i j + wt e (endAt (St e) ((i : Int) - 1) j + 1).toNat ≤ wt e i
  | 0, _ => by rw [sumE, endAt, show ((i : Int) - 1 + 1).toNat = i by omega]; omega
  | j + 1, hj => by
    have ih := sumE_le F hi T j (by omega)
    have k := kd_is F hi (j := j) (by omega)
    have := T.le (kd e i j) k.2
    rw [kd_next F hi (by omega), show rd (St e) (kd e i j) - 1 + 1 = rd (St e) (kd e i j) by omega, sumE]
    rw [k.1, show ((kd e i j : Int) + 1).toNat = kd e i j + 1 by omega] at ih
    omega
theorem sumE_mono {e : List S38} {xs : List ByteArray} {i : Nat} : ∀ {j k : Nat}, j ≤ k → sumE e xs i j ≤ sumE e xs i k
  | j, 0, h => by rw [show j = 0 by omega]; exact Nat.le_refl _
  | j, k + 1, h => by
    by_cases e1 : j = k + 1
    · rw [e1]; exact Nat.le_refl _
    · have := sumE_mono (e := e) (xs := xs) (i := i) (j := j) (k := k) (by omega); rw [sumE]; omega
theorem rdOf_app_l {xs ys : List ByteArray} {q : Nat} (h1 : q < xs.length) : tx (xs ++ ys) q = tx xs q := by
  unfold tx rdOf
  rw [List.getD_eq_getElem?_getD, List.getD_eq_getElem?_getD, List.getElem?_append_left (by omega)]
theorem rdOf_app_at {xs : List ByteArray} {x : ByteArray} : tx (xs ++ [x]) (xs.length : Nat) = x := by
  unfold tx rdOf
  rw [List.getD_eq_getElem?_getD, Int.toNat_natCast, List.getElem?_append_right (by omega)]
  simp
theorem TB.push {e : List S38} (F : Fine e) {i : Nat} (hi : i < e.length) {xs : List ByteArray} (T : TB e i xs) {s : ByteArray} (h : s.size ≤ sumE e xs i (pN e i) + (rd_T38 e (i : Int)).f1.size + 10) : TB e (i + 1) (xs ++ [s]) := by
  refine ⟨by simp [T.len], fun q hq => ?_⟩
  by_cases e1 : q = i
  · subst e1
    have := sumE_le F hi T (pN e q) (Nat.le_refl _)
    rw [← St_at F hi] at this
    have h2 : tx (xs ++ [s]) (q : Nat) = s := by have := rdOf_app_at (xs := xs) (x := s); rwa [T.len] at this
    rw [h2, wt]; omega
  · rw [rdOf_app_l (by have := T.len; omega)]; exact T.le q (by omega)
theorem side_all {e : List S38} {xs : List ByteArray} {c : Int} (h0 : 0 ≤ c) (h1 : c < e.length) (h2 : c < xs.length) (hs : (tx xs c).size ≤ 100000) (a : Int) (b : Bool) :
    ∃ t, tammyref07_side.f e xs c a b = some t ∧ t.size ≤ (tx xs c).size + 2 := by
  unfold tammyref07_side.f
  have hA : 1 + (tx xs c).size ≤ 9223372036854775807 := by omega
  have hz : ((⟨#[40]⟩ : ByteArray) ++ tx xs c).size = 1 + (tx xs c).size := by rw [ByteArray.size_append]; rfl
  have hB : ((⟨#[40]⟩ : ByteArray) ++ tx xs c).size + 1 ≤ 9223372036854775807 := by rw [hz]; omega
  have hC : (((⟨#[40]⟩ : ByteArray) ++ tx xs c) ++ (⟨#[41]⟩ : ByteArray)).size = 1 + (tx xs c).size + 1 := by rw [ByteArray.size_append, hz]; rfl
  simp only [if_pos h0, if_pos h1, if_pos h2, if_pos hA, if_pos hB]
  repeat' split
  all_goals exact ⟨_, rfl, by first | exact Nat.le_add_right _ _ | (rw [hC]; omega)⟩
theorem figure_all (n : Int) : ∃ t, tammyref07_figure.f n = some t ∧ t.size = 1 := ⟨_, rfl, by simp [strOfNums, ByteArray.size]⟩

theorem Text_l1 {e : List S38} (F : Fine e) {i : Nat} (hi : i < e.length) {xs : List ByteArray} (T : TB e i xs)
    (P : ∀ s : ByteArray, s.size ≤ sumE e xs i (pN e i) + (rd_T38 e (i : Int)).f1.size + 10 → ∃ t, Ev (fun k => tammyref07_Text.l0 k e (St e) (xs ++ [s]) ((i + 1 : Nat) : Int)) t ∧ t.size ≤ 100000) : ∀ (m j : Nat) (s : ByteArray), j + m = pN e i → s.size + sumE e xs i m ≤ (rd_T38 e (i : Int)).f1.size + sumE e xs i (pN e i) + j →
    ∃ t, Ev (fun k => tammyref07_Text.l1 k e (St e) xs (i : Int) (kids e i) s (j : Int)) t ∧ t.size ≤ 100000
  | m, j, s, hm, hs => by
    have hn := F.len
    have hp := (F.may i hi).parts
    have hnm := (F.may i hi).1
    have hw := wt_le F i (by omega)
    have hsum := sumE_le F hi T (pN e i) (Nat.le_refl _)
    have hTl := T.len
    have hw1 : wrap64 ((i : Int) + 1) = ((i + 1 : Nat) : Int) := by rw [w64 (by omega)]; omega
    refine Ev.exStep (fun k => tammyref07_Text.l1.eq_2 _ _ _ _ _ _ _ k) ?_
    rw [kids_len]
    cases m with
    | succ m =>
      have hk := kids_at F hi (j := j) (by omega)
      rw [show pN e i - 1 - j = m by omega] at hk
      have kk := kd_is F hi (j := m) (by omega)
      rw [hk, w64 (n := (j : Int) + 1) (by omega)]
      have hs2 : (tx xs (kd e i m)).size + sumE e xs i m = sumE e xs i (m + 1) := by rw [sumE]; omega
      have hm2 := sumE_mono (e := e) (xs := xs) (i := i) (j := m + 1) (k := pN e i) (by omega)
      have z1 : ∀ c : UInt8, (s ++ (⟨#[c]⟩ : ByteArray)).size = s.size + 1 := fun c => by rw [ByteArray.size_append]; rfl
      have ih : ∀ c : UInt8, ∃ t, Ev (fun k => tammyref07_Text.l1 k e (St e) xs (i : Int) (kids e i) ((s ++ (⟨#[c]⟩ : ByteArray)) ++ tx xs (kd e i m)) ((j : Int) + 1)) t ∧ t.size ≤ 100000 := fun c =>
        Text_l1 F hi T P m (j + 1) _ (by omega) (by rw [ByteArray.size_append, z1]; omega)
      refine Ev.ite (fun _ => ?_) (fun h => absurd (by omega) h)
      refine Ev.ite (fun _ => ?_) (fun _ => ?_)
      · refine Ev.ite (fun _ => ?_) (fun h => absurd (by omega) h)
        refine Ev.ite (fun _ => ?_) (fun h => absurd (by omega) h)
        refine Ev.ite (fun _ => ?_) (fun h => absurd (by omega) h)
        refine Ev.ite (fun _ => ?_) (fun h => absurd (by omega) h)
        refine Ev.ite (fun _ => ih 40) (fun h => absurd (by rw [z1]; show s.size + 1 + (tx xs (kd e i m)).size ≤ _; omega) h)
      · refine Ev.ite (fun _ => ?_) (fun h => absurd (by omega) h)
        refine Ev.ite (fun _ => ?_) (fun h => absurd (by omega) h)
        refine Ev.ite (fun _ => ?_) (fun h => absurd (by omega) h)
        refine Ev.ite (fun _ => ?_) (fun h => absurd (by omega) h)
        refine Ev.ite (fun _ => ih 44) (fun h => absurd (by rw [z1]; show s.size + 1 + (tx xs (kd e i m)).size ≤ _; omega) h)
    | zero =>
      have hsz : sumE e xs i 0 = 0 := rfl
      rw [hsz] at hs
      rw [hw1]
      refine Ev.ite (fun h => absurd h (by omega)) (fun _ => ?_)
      refine Ev.ite (fun _ => ?_) (fun _ => ?_)
      · refine Ev.ite (fun _ => ?_) (fun h => absurd (by omega) h)
        refine Ev.ite (fun _ => ?_) (fun h => absurd (by omega) h)
        exact P _ (by rw [ByteArray.size_append]; show s.size + 1 ≤ _; omega)
      · refine Ev.ite (fun _ => ?_) (fun h => absurd (by omega) h)
        exact P _ (by omega)
theorem Text_l0 {e : List S38} (F : Fine e) : ∀ (m i : Nat) (xs : List ByteArray), i + m = e.length → TB e i xs → ∃ t, Ev (fun k => tammyref07_Text.l0 k e (St e) xs (i : Int)) t ∧ t.size ≤ 100000
  | m, i, xs, hm, T => by
    have hn := F.len
    have hpos := F.pos
    have hTl := T.len
    refine Ev.exStep (fun k => tammyref07_Text.l0.eq_2 _ _ _ _ k) ?_
    cases m with
    | zero =>
      rw [w64 (n := (e.length : Int) - 1) (by omega)]
      refine Ev.ite (fun h => absurd h (by omega)) (fun _ => ?_)
      refine Ev.ite (fun _ => ?_) (fun h => absurd (by omega) h)
      refine Ev.ite (fun _ => Ev.exNow _ ?_) (fun h => absurd (by omega) h)
      have h2 := T.le (e.length - 1) (by omega)
      have h3 := wt_le F e.length (Nat.le_refl _)
      rw [show e.length - 1 + 1 = e.length by omega, show ((e.length - 1 : Nat) : Int) = (e.length : Int) - 1 by omega] at h2
      show (tx xs ((e.length : Int) - 1)).size ≤ 100000
      omega
    | succ m =>
      have hi : i < e.length := by omega
      have P : ∀ s : ByteArray, s.size ≤ sumE e xs i (pN e i) + (rd_T38 e (i : Int)).f1.size + 10 → ∃ t, Ev (fun k => tammyref07_Text.l0 k e (St e) (xs ++ [s]) ((i + 1 : Nat) : Int)) t ∧ t.size ≤ 100000 :=
        fun s hs => Text_l0 F m (i + 1) _ (by omega) (T.push F hi hs)
      have hp := (F.may i hi).parts
      have hmay := F.may i hi
      have hnm := hmay.1
      have hw := wt_le F i (by omega)
      have hsum := sumE_le F hi T (pN e i) (Nat.le_refl _)
      have hw1 : wrap64 ((i : Int) + 1) = ((i + 1 : Nat) : Int) := by rw [w64 (by omega)]; omega
      have hxl : xs.length < 8796093022208 := by omega
      rw [hw1]
      refine Ev.ite (fun _ => ?_) (fun h => absurd (by omega) h)
      refine Ev.ite (fun _ => ?_) (fun h => absurd (by omega) h)
      refine Ev.exBind (Kids_is F hi) ?_
      rw [kids_len]
      have one : ∀ c : UInt8, (⟨#[c]⟩ : ByteArray).size = 1 := fun _ => rfl
      have z1 : ∀ (s : ByteArray) (c : UInt8), (s ++ (⟨#[c]⟩ : ByteArray)).size = s.size + 1 := fun s c => by rw [ByteArray.size_append]; rfl
      refine Ev.ite (fun _ => Ev.ite (fun _ => P _ (by rw [one]; omega)) (fun h => absurd hxl h)) (fun h0 => ?_)
      refine Ev.ite (fun _ => Ev.ite (fun _ => P _ (by rw [one]; omega)) (fun h => absurd hxl h)) (fun h1 => ?_)
      refine Ev.ite (fun _ => Text_l1 F hi T P (pN e i) 0 _ (by omega) (by omega)) (fun h3 => ?_)
      have two : ∀ (a : Int) (c : UInt8), pN e i = 2 → ∃ t1 t2, tammyref07_side.f e xs (rd (kids e i) 0) a true = some t1 ∧ tammyref07_side.f e xs (rd (kids e i) 1) a false = some t2 ∧ t1.size + 1 ≤ 9223372036854775807 ∧ (t1 ++ (⟨#[c]⟩ : ByteArray)).size + t2.size ≤ 9223372036854775807 ∧
          ((t1 ++ (⟨#[c]⟩ : ByteArray)) ++ t2).size ≤ sumE e xs i (pN e i) + (rd_T38 e (i : Int)).f1.size + 10 := fun a c h2 => by
        have k0 := kids_at F hi (j := 0) (by omega)
        have k1 := kids_at F hi (j := 1) (by omega)
        rw [show pN e i - 1 - 0 = 1 by omega] at k0
        rw [show pN e i - 1 - 1 = 0 by omega] at k1
        have d0 := kd_is F hi (j := 0) (by omega)
        have d1 := kd_is F hi (j := 1) (by omega)
        have hS : sumE e xs i (pN e i) = (tx xs (kd e i 0)).size + (tx xs (kd e i 1)).size := by rw [h2, sumE, sumE, sumE]; omega
        obtain ⟨t1, e1, b1⟩ := side_all (e := e) (xs := xs) (c := rd (kids e i) 0) (by rw [show (0 : Int) = ((0 : Nat) : Int) from rfl, k0]; omega) (by rw [show (0 : Int) = ((0 : Nat) : Int) from rfl, k0]; omega) (by rw [show (0 : Int) = ((0 : Nat) : Int) from rfl, k0]; omega) (by rw [show (0 : Int) = ((0 : Nat) : Int) from rfl, k0]; omega) a true
        obtain ⟨t2, e2, b2⟩ := side_all (e := e) (xs := xs) (c := rd (kids e i) 1) (by rw [show (1 : Int) = ((1 : Nat) : Int) from rfl, k1]; omega) (by rw [show (1 : Int) = ((1 : Nat) : Int) from rfl, k1]; omega) (by rw [show (1 : Int) = ((1 : Nat) : Int) from rfl, k1]; omega) (by rw [show (1 : Int) = ((1 : Nat) : Int) from rfl, k1]; omega) a false
        rw [show (0 : Int) = ((0 : Nat) : Int) from rfl, k0] at b1
        rw [show (1 : Int) = ((1 : Nat) : Int) from rfl, k1] at b2
        refine ⟨t1, t2, e1, e2, by omega, by rw [z1]; omega, ?_⟩
        rw [ByteArray.size_append, z1]; omega
      refine Ev.ite (fun h4 => ?_) (fun h4 => ?_)
      · have hp2 : pN e i = 2 := by unfold pN; have := hmay.2; rw [if_neg (by omega)]; omega
        obtain ⟨t1, t2, e1, e2, b1, b2, b3⟩ := two 4 124 hp2
        refine Ev.ite (fun _ => ?_) (fun h => absurd (by omega) h)
        refine Ev.exPure e1 ?_
        refine Ev.ite (fun _ => ?_) (fun h => absurd b1 h)
        refine Ev.ite (fun _ => ?_) (fun h => absurd (by omega) h)
        refine Ev.exPure e2 ?_
        refine Ev.ite (fun _ => ?_) (fun h => absurd b2 h)
        exact Ev.ite (fun _ => P _ b3) (fun h => absurd hxl h)
      refine Ev.ite (fun h5 => ?_) (fun h5 => ?_)
      · have hp2 : pN e i = 2 := by unfold pN; have := hmay.2; rw [if_neg (by omega)]; omega
        obtain ⟨t1, t2, e1, e2, b1, b2, b3⟩ := two 5 38 hp2
        refine Ev.ite (fun _ => ?_) (fun h => absurd (by omega) h)
        refine Ev.exPure e1 ?_
        refine Ev.ite (fun _ => ?_) (fun h => absurd b1 h)
        refine Ev.ite (fun _ => ?_) (fun h => absurd (by omega) h)
        refine Ev.exPure e2 ?_
        refine Ev.ite (fun _ => ?_) (fun h => absurd b2 h)
        exact Ev.ite (fun _ => P _ b3) (fun h => absurd hxl h)
      refine Ev.ite (fun h6 => ?_) (fun h6 => ?_)
      · have hp1 : pN e i = 1 := by unfold pN; rw [if_pos h6]
        have k0 := kids_at F hi (j := 0) (by omega)
        rw [show pN e i - 1 - 0 = 0 by omega] at k0
        have k0 : rd (kids e i) 0 = (kd e i 0 : Int) := k0
        have d0 := kd_is F hi (j := 0) (by omega)
        have hS : sumE e xs i (pN e i) = (tx xs (kd e i 0)).size := by rw [hp1, sumE, sumE]; omega
        obtain ⟨g, eg, zg⟩ := figure_all (rd_T38 e (i : Int)).f2
        rw [k0]
        refine Ev.ite (fun _ => ?_) (fun h => absurd (by omega) h)
        refine Ev.exPure eg ?_
        refine Ev.ite (fun _ => ?_) (fun h => absurd (by rw [z1]; omega) h)
        refine Ev.ite (fun _ => ?_) (fun h => absurd (by rw [ByteArray.size_append, z1]; omega) h)
        refine Ev.ite (fun _ => ?_) (fun h => absurd (by omega) h)
        refine Ev.ite (fun _ => ?_) (fun h => absurd (by omega) h)
        refine Ev.ite (fun _ => ?_) (fun h => absurd (by omega) h)
        refine Ev.ite (fun _ => ?_) (fun h => absurd (by rw [z1, ByteArray.size_append, z1]; show _ + (tx xs (kd e i 0)).size ≤ _; omega) h)
        refine Ev.ite (fun _ => ?_) (fun h => absurd (by rw [ByteArray.size_append, z1, ByteArray.size_append, z1]; show _ + (tx xs (kd e i 0)).size + 1 ≤ _; omega) h)
        exact Ev.ite (fun _ => P _ (by rw [z1, ByteArray.size_append, z1, ByteArray.size_append, z1]; show _ + (tx xs (kd e i 0)).size + 1 ≤ _; omega)) (fun h => absurd hxl h)
      exact Ev.ite (fun _ => P _ (by omega)) (fun h => absurd hxl h)
theorem Text_all {e : List S38} (F : Fine e) : ∃ t, Ev (fun k => tammyref07_Text.f k e) t ∧ t.size ≤ 100000 := by
  unfold tammyref07_Text.f
  refine Ev.exBind (Starts_is F) ?_
  exact Text_l0 F e.length 0 [] (by omega) ⟨rfl, fun q hq => absurd hq (Nat.not_lt_zero q)⟩

/-! ### Right -/
theorem Right_l1 (s : ByteArray) (hs : s.size ≤ 9223372036854775807) : ∀ (m : Nat) (o i : Int), 0 ≤ i → i ≤ s.size → (s.size : Int) - i = m → ∃ b, Ev (fun k => tammyref07_Right.l1 k s o i) b ∧ True
  | m, o, i, h0, h1, hm => by
    refine Ev.exStep (fun k => tammyref07_Right.l1.eq_2 _ _ _ k) ?_
    refine Ev.ite (fun hi => ?_) (fun hi => Ev.exNow _ trivial)
    obtain ⟨m, rfl⟩ : ∃ m', m = m' + 1 := ⟨m - 1, by omega⟩
    have ih := fun o => Right_l1 s hs m o (i + 1) (by omega) (by omega) (by omega)
    have J : ∀ o, ∃ r, Ev (fun k => tammyref07_Right.j2 k s o i) r ∧ True := fun o => by
      refine Ev.exStep (fun k => tammyref07_Right.j2.eq_2 _ _ _ k) ?_
      rw [w64 (n := i + 1) (by omega)]
      refine Ev.ite (fun _ => ?_) (fun h => absurd h0 h)
      refine Ev.ite (fun _ => ?_) (fun h => absurd hi h)
      refine Ev.ite (fun _ => Ev.ite (fun _ => Ev.exNow _ trivial) (fun _ => ih _)) (fun _ => Ev.ite (fun _ => Ev.exNow _ trivial) (fun _ => ih _))
    refine Ev.ite (fun _ => ?_) (fun h => absurd h0 h)
    exact Ev.ite (fun _ => J _) (fun _ => J _)
theorem Right_l0 {e : List S38} (hl : e.length ≤ 9223372036854775807) (hfew : (∀ x ∈ e, x.f1.size ≤ 20) → e.length ≤ 600) : ∀ (m i : Nat), i + m = e.length →
    (∀ j, j < i → May (rd_T38 e (j : Int))) → (∀ j, j < i → pN e j ≤ dep e j) → dep e i ≤ i →
    ∃ b, Ev (fun k => tammyref07_Right.l0 k e (dep e i : Int) (i : Int)) b ∧ (b = true → Fine e)
  | m, i, hm, hmay, hfit, hd => by
    refine Ev.exStep (fun k => tammyref07_Right.l0.eq_2 _ _ _ k) ?_
    cases m with
    | zero =>
      refine Ev.ite (fun h => absurd h (by omega)) (fun _ => ?_)
      have hi : i = e.length := by omega
      subst hi
      refine Ev.ite (fun h1 => ?_) (fun _ => Ev.exNow _ (fun h => by cases h))
      have F : Fine e := ⟨hfew (fun x hx => by
        obtain ⟨j, hj, rfl⟩ := List.getElem_of_mem hx
        have := (hmay j hj).1
        unfold rd_T38 at this
        rw [List.getD_eq_getElem?_getD, Int.toNat_natCast, List.getElem?_eq_getElem hj] at this
        exact this), hmay, hfit, by omega⟩
      obtain ⟨t, ht, hs⟩ := Text_all F
      refine Ev.exBind ht ?_
      obtain ⟨b, hb, _⟩ := Right_l1 t (by omega) t.size 0 0 (by omega) (by omega) (by omega)
      exact ⟨b, hb, fun _ => F⟩
    | succ m =>
      refine Ev.ite (fun _ => ?_) (fun h => absurd (by omega) h)
      refine Ev.ite (fun _ => ?_) (fun h => absurd (by omega) h)
      obtain ⟨b, eb, hb⟩ := may_all (rd_T38 e (i : Int)).f0 (rd_T38 e (i : Int)).f1 (rd_T38 e (i : Int)).f2
      refine Ev.exBind eb ?_
      refine Ev.ite (fun h => ?_) (fun _ => Ev.exNow _ (fun h => by cases h))
      have M : May (rd_T38 e (i : Int)) := hb h
      have hp := M.parts
      refine Ev.exPure hp.2.1 ?_
      refine Ev.ite (fun _ => Ev.exNow _ (fun h => by cases h)) (fun hle => ?_)
      refine Ev.exPure hp.2.1 ?_
      have hd2 : wrap64 (wrap64 ((dep e i : Int) - (pN e i : Int)) + 1) = (dep e (i + 1) : Int) := by
        rw [w64 (n := (dep e i : Int) - (pN e i : Int)) (by omega), w64 (by omega)]
        show _ = ((dep e i + 1 - pN e i : Nat) : Int)
        omega
      rw [hd2, w64 (by omega)]
      refine Right_l0 hl hfew m (i + 1) (by omega) (fun j hj => ?_) (fun j hj => ?_) (by show dep e i + 1 - pN e i ≤ i + 1; omega)
      · by_cases e1 : j = i
        · rw [e1]; exact M
        · exact hmay j (by omega)
      · by_cases e1 : j = i
        · rw [e1]; omega
        · exact hfit j (by omega)
/-- Few nodes: are they right? -/
theorem Right_all {e : List S38} (hl : e.length ≤ 9223372036854775807) (hfew : (∀ x ∈ e, x.f1.size ≤ 20) → e.length ≤ 600) : ∃ b, Ev (fun k => tammyref07_Right.f k e) b ∧ (b = true → Fine e) := by
  unfold tammyref07_Right.f
  exact Right_l0 hl hfew e.length 0 (by omega) (fun j hj => absurd hj (Nat.not_lt_zero j)) (fun j hj => absurd hj (Nat.not_lt_zero j)) (Nat.le_refl _)
theorem of_all {l : List S52} {e : List S38} (hl : l.length ≤ 9223372036854775807) (hs : ∀ x ∈ l, x.f1.size ≤ 9223372036854775807) (he : e.length ≤ 9223372036854775807) : ∃ b, Ev (fun k => tammylaw08_of.f k l e) b ∧ (b = true → Fine e ∧ l.length ≤ 64) := by
  unfold tammylaw08_of.f
  refine Ev.ite (fun h64 => ?_) (fun _ => Ev.exNow _ (fun h => by cases h))
  obtain ⟨a, ea, _⟩ := sigRight_all l hl hs
  refine Ev.exBind ea ?_
  refine Ev.ite (fun _ => ?_) (fun _ => Ev.exNow _ (fun h => by cases h))
  obtain ⟨b, eb, hb⟩ := Few_all e he
  refine Ev.exBind eb ?_
  refine Ev.ite (fun h => ?_) (fun _ => Ev.exNow _ (fun h => by cases h))
  obtain ⟨c, ec, hc⟩ := Right_all he (hb h)
  refine Ev.exBind ec ?_
  exact Ev.exNow _ (fun h => ⟨hc h, by omega⟩)
end Go.Proofs.Ytgbickkmfjngbaa.K
