/- Plainly: names, nodes, rows of constructors: all the tests come to an end. -/
import Derived.Laws.Strings
import Derived.Test.YtgbickkmfjngbaaKx11
import Derived.Test.YtgbickkmfjngbaaGb
namespace Go.Proofs.Ytgbickkmfjngbaa.K
open Go.RowKit Go.Proofs.YtgbickkmfjngbaaW.PrintWords Go.Proofs.YtgbickkmfjngbaaW.PrintLast Go.Proofs.YtgbickkmfjngbaaG.Words
set_option linter.unusedVariables false
set_option linter.unusedSimpArgs false

theorem w64 {n : Int} (h : -9223372036854775808 ≤ n ∧ n ≤ 9223372036854775807) : wrap64 n = n := by unfold wrap64; omega
theorem Ev.pos {α : Type} {c : Prop} [Decidable c] {f g : Nat → Option α} {r : α} (h : c) (k : Ev f r) : Ev (fun n => if c then f n else g n) r := by simpa only [h, if_true] using k
theorem Ev.neg {α : Type} {c : Prop} [Decidable c] {f g : Nat → Option α} {r : α} (h : ¬ c) (k : Ev g r) : Ev (fun n => if c then f n else g n) r := by simpa only [h, if_false] using k
theorem Ev.pure {α β : Type} {o : Option α} {f : Nat → α → Option β} {a : α} {r : β} (h : o = some a) (k : Ev (fun n => f n a) r) : Ev (fun n => o.bind (f n)) r := by simpa only [h, Option.bind_some] using k
theorem Ev.inj {α : Type} {g : Nat → Option α} {a b : α} (h : Ev g a) (k : Ev g b) : a = b := by
  obtain ⟨K, h⟩ := h
  obtain ⟨L, k⟩ := k
  exact Option.some.inj ((h (max K L) (by omega)).symm.trans (k (max K L) (by omega)))
/-- Either arm. -/
theorem Ev.ite {α : Type} {c : Prop} [Decidable c] {f g : Nat → Option α} {P : α → Prop} (h : c → ∃ r, Ev f r ∧ P r) (k : ¬ c → ∃ r, Ev g r ∧ P r) : ∃ r, Ev (fun n => if c then f n else g n) r ∧ P r := by
  by_cases e : c
  · obtain ⟨r, h1, h2⟩ := h e; exact ⟨r, Ev.pos e h1, h2⟩
  · obtain ⟨r, h1, h2⟩ := k e; exact ⟨r, Ev.neg e h1, h2⟩
theorem Ev.exBind {α β : Type} {g : Nat → Option α} {f : Nat → α → Option β} {a : α} {P : β → Prop} (h : Ev g a) (k : ∃ r, Ev (fun n => f n a) r ∧ P r) : ∃ r, Ev (fun n => (g n).bind (f n)) r ∧ P r := by
  obtain ⟨r, k1, k2⟩ := k; exact ⟨r, h.bind k1, k2⟩
theorem Ev.exPure {α β : Type} {o : Option α} {f : Nat → α → Option β} {a : α} {P : β → Prop} (h : o = some a) (k : ∃ r, Ev (fun n => f n a) r ∧ P r) : ∃ r, Ev (fun n => o.bind (f n)) r ∧ P r := by
  obtain ⟨r, k1, k2⟩ := k; exact ⟨r, Ev.pure h k1, k2⟩
theorem Ev.exStep {α : Type} {g f : Nat → Option α} {P : α → Prop} (h : ∀ k, g (k + 1) = f k) (k : ∃ r, Ev f r ∧ P r) : ∃ r, Ev g r ∧ P r := by
  obtain ⟨r, k1, k2⟩ := k; exact ⟨r, Ev.step h k1, k2⟩
theorem Ev.exNow {α : Type} {P : α → Prop} (r : α) (h : P r) : ∃ x, Ev (fun _ => some r) x ∧ P x := ⟨r, Ev.now r, h⟩

/-! ### Names -/
theorem small_all (c : Int) : ∃ b, tammyref01_small.f c = some b := by
  unfold tammyref01_small.f; split <;> exact ⟨_, rfl⟩
theorem big_all (c : Int) : ∃ b, tammyref01_big.f c = some b := by
  unfold tammyref01_big.f; split <;> exact ⟨_, rfl⟩
theorem Name_l0_all (s : ByteArray) (hs : s.size ≤ 20) : ∀ (m : Nat) (i : Int), 0 ≤ i → i ≤ s.size → (s.size : Int) - i = m → ∃ b, Ev (fun k => tammyref01_Name.l0 k s i) b ∧ True
  | m, i, h0, h1, hm => by
    refine Ev.exStep (fun k => tammyref01_Name.l0.eq_2 s i k) ?_
    refine Ev.ite (fun hi => ?_) (fun hi => Ev.exNow _ trivial)
    have hw : wrap64 (i + 1) = i + 1 := w64 (by omega)
    obtain ⟨m, rfl⟩ : ∃ m', m = m' + 1 := ⟨m - 1, by omega⟩
    have ih := Name_l0_all s hs m (i + 1) (by omega) (by omega) (by omega)
    have J : ∀ b, ∃ r, Ev (fun k => tammyref01_Name.j2 k s i b) r ∧ True := fun b => by
      refine Ev.exStep (fun k => tammyref01_Name.j2.eq_2 s i b k) ?_
      refine Ev.ite (fun _ => ?_) (fun h => absurd h0 h)
      refine Ev.ite (fun _ => ?_) (fun h => absurd hi h)
      obtain ⟨b1, e1⟩ := small_all (bt s i)
      refine Ev.exPure e1 ?_
      rw [hw]
      refine Ev.ite (fun _ => ih) (fun _ => ?_)
      obtain ⟨b2, e2⟩ := big_all (bt s i)
      refine Ev.exPure e2 ?_
      refine Ev.ite (fun _ => ih) (fun _ => ?_)
      refine Ev.ite (fun _ => Ev.exNow _ trivial) (fun _ => ?_)
      exact Ev.ite (fun _ => ih) (fun _ => Ev.exNow _ trivial)
    refine Ev.ite (fun _ => ?_) (fun h => absurd h0 h)
    refine Ev.ite (fun _ => ?_) (fun _ => J _)
    exact Ev.ite (fun _ => J _) (fun _ => J _)
theorem Name_all (s : ByteArray) : ∃ b, Ev (fun k => tammyref01_Name.f k s) b ∧ (b = true → 1 ≤ s.size ∧ s.size ≤ 20) := by
  unfold tammyref01_Name.f
  refine Ev.ite (fun h => ?_) (fun h => ?_)
  · refine Ev.exStep (fun k => tammyref01_Name.j0.eq_2 s true k) ?_
    exact Ev.ite (fun _ => Ev.exNow _ (fun h => by cases h)) (fun h => absurd rfl h)
  · refine Ev.exStep (fun k => tammyref01_Name.j0.eq_2 s _ k) ?_
    refine Ev.ite (fun _ => Ev.exNow _ (fun h => by cases h)) (fun h2 => ?_)
    have h3 : ¬ ((s.size : Int) > 20) := fun h4 => h2 (decide_eq_true h4)
    obtain ⟨b, e, _⟩ := Name_l0_all s (by omega) s.size 0 (by omega) (by omega) (by omega)
    exact ⟨b, e, fun _ => by omega⟩
theorem Con_all (s : ByteArray) : ∃ b, Ev (fun k => tammyref01_Con.f k s) b ∧ (b = true → s.size ≤ 20) := by
  unfold tammyref01_Con.f
  obtain ⟨b, e, hb⟩ := Name_all s
  refine Ev.exBind e ?_
  refine Ev.ite (fun h => ?_) (fun h => Ev.exNow _ (fun h => by cases h))
  have := hb h
  refine Ev.ite (fun _ => ?_) (fun h => absurd (by omega) h)
  obtain ⟨b1, e1⟩ := small_all (bt s 0)
  exact Ev.exPure e1 (Ev.exNow _ (fun _ => this.2))
theorem Var_all (s : ByteArray) : ∃ b, Ev (fun k => tammyref01_Var.f k s) b ∧ (b = true → s.size ≤ 20) := by
  unfold tammyref01_Var.f
  obtain ⟨b, e, hb⟩ := Name_all s
  refine Ev.exBind e ?_
  refine Ev.ite (fun h => ?_) (fun h => Ev.exNow _ (fun h => by cases h))
  have := hb h
  refine Ev.ite (fun _ => ?_) (fun h => absurd (by omega) h)
  obtain ⟨b1, e1⟩ := big_all (bt s 0)
  exact Ev.exPure e1 (Ev.exNow _ (fun _ => this.2))

/-! ### Nodes -/
/-- What may be a node. -/
def May (x : S38) : Prop := x.f1.size ≤ 20 ∧ ((x.f0 = 0 ∧ x.f2 = 0) ∨ (x.f0 = 1 ∧ x.f2 = 0) ∨ (x.f0 = 2 ∧ x.f2 = 0) ∨ (x.f0 = 3 ∧ 0 ≤ x.f2 ∧ x.f2 ≤ 8) ∨ (x.f0 = 4 ∧ x.f2 = 2) ∨ (x.f0 = 5 ∧ x.f2 = 2) ∨ (x.f0 = 6 ∧ 1 ≤ x.f2 ∧ x.f2 ≤ 8))
theorem size_nil {s : ByteArray} (h : s.toList = []) : s.size = 0 := by
  have : s.data.toList = [] := by rw [← Go.ByteArray.toList_eq]; exact h
  have h2 := congrArg List.length this
  simpa using h2
theorem may_all (a : Int) (s : ByteArray) (n : Int) : ∃ b, Ev (fun k => tammyref07_may.f k a s n) b ∧ (b = true → May ⟨a, s, n⟩) := by
  unfold tammyref07_may.f
  obtain ⟨c, ec, hc⟩ := Con_all s
  refine Ev.exBind ec ?_
  have J1 : ∀ x, (x = true → a = 4 ∨ a = 5) → ∃ r, Ev (fun k => tammyref07_may.j1 k c a x a s n) r ∧ (r = true → May ⟨a, s, n⟩) := fun x hx => by
    refine Ev.exStep (fun k => tammyref07_may.j1.eq_2 c a x a s n k) ?_
    refine Ev.ite (fun h => ?_) (fun h => ?_)
    · refine Ev.ite (fun h1 => Ev.exNow _ (fun h2 => ?_)) (fun _ => Ev.exNow _ (fun h => by cases h))
      have h3 : n = 2 := by simpa using h2
      have := size_nil h1
      refine ⟨by show s.size ≤ 20; omega, ?_⟩
      rcases hx h with h | h <;> simp [h, h3]
    · refine Ev.ite (fun h6 => ?_) (fun _ => Ev.exNow _ (fun h => by cases h))
      refine Ev.ite (fun h7 => ?_) (fun _ => Ev.exNow _ (fun h => by cases h))
      refine Ev.ite (fun h8 => ?_) (fun _ => Ev.exNow _ (fun h => by cases h))
      refine Ev.exNow _ (fun h9 => ⟨hc h7, ?_⟩)
      have h9 := of_decide_eq_true h9
      exact .inr (.inr (.inr (.inr (.inr (.inr ⟨h6, h8, h9⟩)))))
  have J0 : ∀ x, (x = true → a = 0 ∨ a = 1) → ∃ r, Ev (fun k => tammyref07_may.j0 k c a x a s n) r ∧ (r = true → May ⟨a, s, n⟩) := fun x hx => by
    refine Ev.exStep (fun k => tammyref07_may.j0.eq_2 c a x a s n k) ?_
    refine Ev.ite (fun h => ?_) (fun h => ?_)
    · refine Ev.ite (fun h1 => Ev.exNow _ (fun h2 => ?_)) (fun _ => Ev.exNow _ (fun h => by cases h))
      have h3 : n = 0 := by simpa using h2
      have := size_nil h1
      refine ⟨by show s.size ≤ 20; omega, ?_⟩
      rcases hx h with h | h <;> simp [h, h3]
    · refine Ev.ite (fun h2 => ?_) (fun h2 => ?_)
      · obtain ⟨v, ev, hv⟩ := Var_all s
        refine Ev.exBind ev ?_
        refine Ev.ite (fun h => Ev.exNow _ (fun h3 => ⟨hv h, ?_⟩)) (fun _ => Ev.exNow _ (fun h => by cases h))
        exact .inr (.inr (.inl ⟨h2, by simpa using h3⟩))
      refine Ev.ite (fun h3 => ?_) (fun h3 => ?_)
      · refine Ev.ite (fun h7 => ?_) (fun _ => Ev.exNow _ (fun h => by cases h))
        refine Ev.ite (fun h8 => ?_) (fun _ => Ev.exNow _ (fun h => by cases h))
        refine Ev.exNow _ (fun h9 => ⟨hc h7, ?_⟩)
        have h9 := of_decide_eq_true h9
        exact .inr (.inr (.inr (.inl ⟨h3, h8, h9⟩)))
      refine Ev.ite (fun h4 => J1 _ (fun _ => .inl h4)) (fun h4 => J1 _ (fun h => .inr (by simpa using h)))
  exact Ev.ite (fun h => J0 _ (fun _ => .inl h)) (fun _ => J0 _ (fun h => .inr (by simpa using h)))

/-! ### Few nodes -/
theorem Few_l0 (e : List S38) (hl : e.length ≤ 9223372036854775807) : ∀ (m : Nat) (n i : Int), 0 ≤ i → i ≤ e.length → (e.length : Int) - i = m →
    ∃ b, Ev (fun k => tammyref07_Few.l0 k e n i) b ∧ (b = true → (∀ x ∈ e, x.f1.size ≤ 20) → 0 ≤ n → n ≤ 600 → n + m ≤ 600)
  | m, n, i, h0, h1, hm => by
    refine Ev.exStep (fun k => tammyref07_Few.l0.eq_2 e n i k) ?_
    refine Ev.ite (fun hi => ?_) (fun hi => Ev.exNow _ (fun _ _ _ _ => by omega))
    obtain ⟨m, rfl⟩ : ∃ m', m = m' + 1 := ⟨m - 1, by omega⟩
    refine Ev.ite (fun _ => ?_) (fun h => absurd h0 h)
    rw [w64 (n := i + 1) (by omega)]
    refine Ev.ite (fun _ => Ev.exNow _ (fun h => by cases h)) (fun h6 => ?_)
    obtain ⟨b, eb, hb⟩ := Few_l0 e hl m (wrap64 (wrap64 (n + 1) + ((rd_T38 e i).f1.size : Int))) (i + 1) (by omega) (by omega) (by omega)
    refine ⟨b, eb, fun h hs hn0 hn1 => ?_⟩
    have hm2 : rd_T38 e i ∈ e := by
      unfold rd_T38
      have : i.toNat < e.length := by omega
      rw [List.getD_eq_getElem?_getD, List.getElem?_eq_getElem this]
      exact List.getElem_mem _
    have hsz := hs _ hm2
    have w1 : wrap64 (n + 1) = n + 1 := w64 (by omega)
    have w2 : wrap64 (wrap64 (n + 1) + ((rd_T38 e i).f1.size : Int)) = n + 1 + ((rd_T38 e i).f1.size : Int) := by rw [w1]; exact w64 (by omega)
    rw [w2] at h6 hb
    have := hb h hs (by omega) (by omega)
    omega
theorem Few_all (e : List S38) (hl : e.length ≤ 9223372036854775807) : ∃ b, Ev (fun k => tammyref07_Few.f k e) b ∧ (b = true → (∀ x ∈ e, x.f1.size ≤ 20) → e.length ≤ 600) := by
  unfold tammyref07_Few.f
  obtain ⟨b, eb, hb⟩ := Few_l0 e hl e.length 0 0 (by omega) (by omega) (by omega)
  exact ⟨b, eb, fun h hs => by have := hb h hs (by omega) (by omega); omega⟩

/-! ### Rows of constructors -/
theorem findI_in (a : ByteArray) : ∀ (l : List S52) (i : Int), findI a l i = -1 ∨ (i ≤ findI a l i ∧ findI a l i < i + l.length)
  | [], i => .inl rfl
  | x :: xs, i => by
    unfold findI
    split
    · exact .inr ⟨Int.le_refl _, by simp only [List.length_cons]; omega⟩
    · rcases findI_in a xs (i + 1) with h | h
      · exact .inl h
      · exact .inr (by simp only [List.length_cons]; omega)
theorem Find_l0 (l : List S52) (a : ByteArray) (hl : l.length ≤ 9223372036854775807) : ∀ (m : Nat) (i : Nat), i ≤ l.length → l.length - i = m → Ev (fun k => tammyref01_Find.l0 k l a (i : Int)) (findI a (l.drop i) i)
  | m, i, h1, hm => by
    refine Ev.step (fun k => tammyref01_Find.l0.eq_2 l a i k) ?_
    by_cases hi : i < l.length
    · refine Ev.pos (by omega) (Ev.pos (by omega) ?_)
      have hd : l.drop i = l[i] :: l.drop (i + 1) := List.drop_eq_getElem_cons hi
      have hr : rd_T52 l (i : Int) = l[i] := by
        unfold rd_T52
        rw [Int.toNat_natCast, List.getD_eq_getElem?_getD, List.getElem?_eq_getElem hi]; rfl
      rw [hd, hr, findI]
      by_cases h : l[i].f0.toList = a.toList
      · rw [if_pos h]; exact Ev.pos h (Ev.now _)
      · rw [if_neg h]
        refine Ev.neg h ?_
        rw [w64 (by omega)]
        obtain ⟨m, rfl⟩ : ∃ m', m = m' + 1 := ⟨m - 1, by omega⟩
        exact Find_l0 l a hl m (i + 1) (by omega) (by omega)
    · refine Ev.neg (by omega) ?_
      rw [List.drop_eq_nil_of_le (by omega)]
      exact Ev.now _
theorem Find_is (l : List S52) (a : ByteArray) (hl : l.length ≤ 9223372036854775807) : Ev (fun k => tammyref01_Find.f k l a) (findI a l 0) := by
  unfold tammyref01_Find.f
  exact Find_l0 l a hl l.length 0 (by omega) (by omega)
theorem Args_l0 (s : ByteArray) (hs : s.size ≤ 9223372036854775807) : ∀ (m : Nat) (i : Int), 0 ≤ i → i ≤ s.size → (s.size : Int) - i = m → ∃ b, Ev (fun k => tammyref01_Args.l0 k s i) b ∧ True
  | m, i, h0, h1, hm => by
    refine Ev.exStep (fun k => tammyref01_Args.l0.eq_2 s i k) ?_
    refine Ev.ite (fun hi => ?_) (fun hi => Ev.exNow _ trivial)
    rw [w64 (n := i + 1) (by omega)]
    obtain ⟨m, rfl⟩ : ∃ m', m = m' + 1 := ⟨m - 1, by omega⟩
    have ih := Args_l0 s hs m (i + 1) (by omega) (by omega) (by omega)
    refine Ev.ite (fun _ => ?_) (fun h => absurd h0 h)
    refine Ev.ite (fun _ => ih) (fun _ => Ev.ite (fun _ => ih) (fun _ => Ev.ite (fun _ => ih) (fun _ => Ev.exNow _ trivial)))
theorem sigRight_l0 (l : List S52) (hl : l.length ≤ 9223372036854775807) (hs : ∀ x ∈ l, x.f1.size ≤ 9223372036854775807) : ∀ (m : Nat) (i : Int), 0 ≤ i → i ≤ l.length → (l.length : Int) - i = m → ∃ b, Ev (fun k => tammyref01_Right.l0 k l i) b ∧ True
  | m, i, h0, h1, hm => by
    refine Ev.exStep (fun k => tammyref01_Right.l0.eq_2 l i k) ?_
    refine Ev.ite (fun hi => ?_) (fun hi => Ev.exNow _ trivial)
    obtain ⟨m, rfl⟩ : ∃ m', m = m' + 1 := ⟨m - 1, by omega⟩
    refine Ev.ite (fun _ => ?_) (fun h => absurd h0 h)
    obtain ⟨c, ec, _⟩ := Con_all (rd_T52 l i).f0
    refine Ev.exBind ec ?_
    refine Ev.ite (fun _ => ?_) (fun _ => Ev.exNow _ trivial)
    have hm2 : rd_T52 l i ∈ l := by
      unfold rd_T52
      have : i.toNat < l.length := by omega
      rw [List.getD_eq_getElem?_getD, List.getElem?_eq_getElem this]
      exact List.getElem_mem _
    obtain ⟨g, eg, _⟩ := Args_l0 (rd_T52 l i).f1 (hs _ hm2) (rd_T52 l i).f1.size 0 (by omega) (by omega) (by omega)
    refine Ev.exBind (a := g) (by unfold tammyref01_Args.f; exact eg) ?_
    refine Ev.ite (fun _ => ?_) (fun _ => Ev.exNow _ trivial)
    refine Ev.exBind (Find_is l _ hl) ?_
    refine Ev.ite (fun _ => Ev.exNow _ trivial) (fun _ => ?_)
    rw [w64 (n := i + 1) (by omega)]
    exact sigRight_l0 l hl hs m (i + 1) (by omega) (by omega) (by omega)
theorem sigRight_all (l : List S52) (hl : l.length ≤ 9223372036854775807) (hs : ∀ x ∈ l, x.f1.size ≤ 9223372036854775807) : ∃ b, Ev (fun k => tammyref01_Right.f k l) b ∧ True := by
  unfold tammyref01_Right.f
  exact sigRight_l0 l hl hs l.length 0 (by omega) (by omega) (by omega)
theorem sigRight_nil : Ev (fun k => tammyref01_Right.f k []) true := by
  unfold tammyref01_Right.f
  exact Ev.step (fun k => tammyref01_Right.l0.eq_2 [] 0 k) (Ev.neg (by simp) (Ev.now _))
end Go.Proofs.Ytgbickkmfjngbaa.K
