/- Plainly: names and rows of constructors come to an end; terms that may be; stores that are right. -/
import Derived.Test.YtiliknfmlmdmbaaPa
import Derived.Test.YtiliknfmlmdmbaaHg
import Derived.Test.YtiliknfmlmdmbaaHj
import Derived.Test.YtiliknfmlmdmbaaTx0
import Derived.Test.YtiliknfmlmdmbaaTx8
import Derived.Test.YtiliknfmlmdmbaaTx9
import Derived.Test.YtiliknfmlmdmbaaTx12
namespace Go.Proofs.Ytiliknfmlmdmbaa.T
open Go.RowKit Go.Proofs.YtiliknfmlmdmbaaW.PrintWords Go.Proofs.YtiliknfmlmdmbaaW.PrintLast Go.Proofs.YtiliknfmlmdmbaaW.PrintMore
set_option linter.unusedVariables false
set_option linter.unusedSimpArgs false

def findI (a : ByteArray) : List S62 → Int → Int
  | [], _ => -1
  | x :: xs, i => if x.f0.toList = a.toList then i else findI a xs (i + 1)
/-! ### Names -/
theorem small_all (c : Int) : ∃ b, tammyref01_small.f c = some b := by
  unfold tammyref01_small.f; split <;> exact ⟨_, rfl⟩
theorem big_all (c : Int) : ∃ b, tammyref01_big.f c = some b := by
  unfold tammyref01_big.f; split <;> exact ⟨_, rfl⟩
theorem Name_l0_all (s : ByteArray) (hs : s.size ≤ 20) : ∀ (m : Nat) (i : Int), 0 ≤ i → i ≤ s.size → (s.size : Int) - i = m → ∃ b, Ev (fun k => tammyref01_Name.l0 k s i) b ∧ True
  | m, i, h0, h1, hm => by
    refine Ev.exStep (fun k => tammyref01_Name.l0.eq_2 s i k) ?_
    refine Ev.ite (fun hi => ?_) (fun hi => Ev.exNow _ trivial)
    have hw : wrap64 (i + 1) = i + 1 := w64 (by omega)
    obtain ⟨m, rfl⟩ : ∃ m', m = m' + 1 := ⟨m - 1, by omega⟩
    have ih := Name_l0_all s hs m (i + 1) (by omega) (by omega) (by omega)
    have J : ∀ b, ∃ r, Ev (fun k => tammyref01_Name.j2 k s i b) r ∧ True := fun b => by
      refine Ev.exStep (fun k => tammyref01_Name.j2.eq_2 s i b k) ?_
      refine Ev.ite (fun _ => ?_) (fun h => absurd h0 h)
      refine Ev.ite (fun _ => ?_) (fun h => absurd hi h)
      obtain ⟨b1, e1⟩ := small_all (bt s i)
      refine Ev.exPure e1 ?_
      rw [hw]
      refine Ev.ite (fun _ => ih) (fun _ => ?_)
      obtain ⟨b2, e2⟩ := big_all (bt s i)
      refine Ev.exPure e2 ?_
      refine Ev.ite (fun _ => ih) (fun _ => ?_)
      refine Ev.ite (fun _ => Ev.exNow _ trivial) (fun _ => ?_)
      exact Ev.ite (fun _ => ih) (fun _ => Ev.exNow _ trivial)
    refine Ev.ite (fun _ => ?_) (fun h => absurd h0 h)
    refine Ev.ite (fun _ => ?_) (fun _ => J _)
    exact Ev.ite (fun _ => J _) (fun _ => J _)
theorem Name_all (s : ByteArray) : ∃ b, Ev (fun k => tammyref01_Name.f k s) b ∧ (b = true → 1 ≤ s.size ∧ s.size ≤ 20) := by
  unfold tammyref01_Name.f
  refine Ev.ite (fun h => ?_) (fun h => ?_)
  · refine Ev.exStep (fun k => tammyref01_Name.j0.eq_2 s true k) ?_
    exact Ev.ite (fun _ => Ev.exNow _ (fun h => by cases h)) (fun h => absurd rfl h)
  · refine Ev.exStep (fun k => tammyref01_Name.j0.eq_2 s _ k) ?_
    refine Ev.ite (fun _ => Ev.exNow _ (fun h => by cases h)) (fun h2 => ?_)
    have h3 : ¬ ((s.size : Int) > 20) := fun h4 => h2 (decide_eq_true h4)
    obtain ⟨b, e, _⟩ := Name_l0_all s (by omega) s.size 0 (by omega) (by omega) (by omega)
    exact ⟨b, e, fun _ => by omega⟩
theorem Con_all (s : ByteArray) : ∃ b, Ev (fun k => tammyref01_Con.f k s) b ∧ (b = true → s.size ≤ 20) := by
  unfold tammyref01_Con.f
  obtain ⟨b, e, hb⟩ := Name_all s
  refine Ev.exBind e ?_
  refine Ev.ite (fun h => ?_) (fun h => Ev.exNow _ (fun h => by cases h))
  have := hb h
  refine Ev.ite (fun _ => ?_) (fun h => absurd (by omega) h)
  obtain ⟨b1, e1⟩ := small_all (bt s 0)
  exact Ev.exPure e1 (Ev.exNow _ (fun _ => this.2))
/-! ### Rows of constructors -/
theorem findI_in (a : ByteArray) : ∀ (l : List S62) (i : Int), findI a l i = -1 ∨ (i ≤ findI a l i ∧ findI a l i < i + l.length)
  | [], i => .inl rfl
  | x :: xs, i => by
    unfold findI
    split
    · exact .inr ⟨Int.le_refl _, by simp only [List.length_cons]; omega⟩
    · rcases findI_in a xs (i + 1) with h | h
      · exact .inl h
      · exact .inr (by simp only [List.length_cons]; omega)
theorem Find_l0 (l : List S62) (a : ByteArray) (hl : l.length ≤ 9223372036854775807) : ∀ (m : Nat) (i : Nat), i ≤ l.length → l.length - i = m → Ev (fun k => tammyref01_Find.l0 k l a (i : Int)) (findI a (l.drop i) i)
  | m, i, h1, hm => by
    refine Ev.step (fun k => tammyref01_Find.l0.eq_2 l a i k) ?_
    by_cases hi : i < l.length
    · refine Ev.pos (by omega) (Ev.pos (by omega) ?_)
      have hd : l.drop i = l[i] :: l.drop (i + 1) := List.drop_eq_getElem_cons hi
      have hr : rd_T62 l (i : Int) = l[i] := by
        unfold rd_T62
        rw [Int.toNat_natCast, List.getD_eq_getElem?_getD, List.getElem?_eq_getElem hi]; rfl
      rw [hd, hr, findI]
      by_cases h : l[i].f0.toList = a.toList
      · rw [if_pos h]; exact Ev.pos h (Ev.now _)
      · rw [if_neg h]
        refine Ev.neg h ?_
        rw [w64 (by omega)]
        obtain ⟨m, rfl⟩ : ∃ m', m = m' + 1 := ⟨m - 1, by omega⟩
        exact Find_l0 l a hl m (i + 1) (by omega) (by omega)
    · refine Ev.neg (by omega) ?_
      rw [List.drop_eq_nil_of_le (by omega)]
      exact Ev.now _
theorem Find_is (l : List S62) (a : ByteArray) (hl : l.length ≤ 9223372036854775807) : Ev (fun k => tammyref01_Find.f k l a) (findI a l 0) := by
  unfold tammyref01_Find.f
  exact Find_l0 l a hl l.length 0 (by omega) (by omega)
theorem Args_l0 (s : ByteArray) (hs : s.size ≤ 9223372036854775807) : ∀ (m : Nat) (i : Int), 0 ≤ i → i ≤ s.size → (s.size : Int) - i = m → ∃ b, Ev (fun k => tammyref01_Args.l0 k s i) b ∧ True
  | m, i, h0, h1, hm => by
    refine Ev.exStep (fun k => tammyref01_Args.l0.eq_2 s i k) ?_
    refine Ev.ite (fun hi => ?_) (fun hi => Ev.exNow _ trivial)
    rw [w64 (n := i + 1) (by omega)]
    obtain ⟨m, rfl⟩ : ∃ m', m = m' + 1 := ⟨m - 1, by omega⟩
    have ih := Args_l0 s hs m (i + 1) (by omega) (by omega) (by omega)
    refine Ev.ite (fun _ => ?_) (fun h => absurd h0 h)
    refine Ev.ite (fun _ => ih) (fun _ => Ev.ite (fun _ => ih) (fun _ => Ev.ite (fun _ => ih) (fun _ => Ev.exNow _ trivial)))
theorem sigRight_l0 (l : List S62) (hl : l.length ≤ 9223372036854775807) (hs : ∀ x ∈ l, x.f1.size ≤ 9223372036854775807) : ∀ (m : Nat) (i : Int), 0 ≤ i → i ≤ l.length → (l.length : Int) - i = m → ∃ b, Ev (fun k => tammyref01_Right.l0 k l i) b ∧ True
  | m, i, h0, h1, hm => by
    refine Ev.exStep (fun k => tammyref01_Right.l0.eq_2 l i k) ?_
    refine Ev.ite (fun hi => ?_) (fun hi => Ev.exNow _ trivial)
    obtain ⟨m, rfl⟩ : ∃ m', m = m' + 1 := ⟨m - 1, by omega⟩
    refine Ev.ite (fun _ => ?_) (fun h => absurd h0 h)
    obtain ⟨c, ec, _⟩ := Con_all (rd_T62 l i).f0
    refine Ev.exBind ec ?_
    refine Ev.ite (fun _ => ?_) (fun _ => Ev.exNow _ trivial)
    have hm2 : rd_T62 l i ∈ l := by
      unfold rd_T62
      have : i.toNat < l.length := by omega
      rw [List.getD_eq_getElem?_getD, List.getElem?_eq_getElem this]
      exact List.getElem_mem _
    obtain ⟨g, eg, _⟩ := Args_l0 (rd_T62 l i).f1 (hs _ hm2) (rd_T62 l i).f1.size 0 (by omega) (by omega) (by omega)
    refine Ev.exBind (a := g) (by unfold tammyref01_Args.f; exact eg) ?_
    refine Ev.ite (fun _ => ?_) (fun _ => Ev.exNow _ trivial)
    refine Ev.exBind (Find_is l _ hl) ?_
    refine Ev.ite (fun _ => Ev.exNow _ trivial) (fun _ => ?_)
    rw [w64 (n := i + 1) (by omega)]
    exact sigRight_l0 l hl hs m (i + 1) (by omega) (by omega) (by omega)
theorem sigRight_all (l : List S62) (hl : l.length ≤ 9223372036854775807) (hs : ∀ x ∈ l, x.f1.size ≤ 9223372036854775807) : ∃ b, Ev (fun k => tammyref01_Right.f k l) b ∧ True := by
  unfold tammyref01_Right.f
  exact sigRight_l0 l hl hs l.length 0 (by omega) (by omega) (by omega)
theorem sigRight_nil : Ev (fun k => tammyref01_Right.f k []) true := by
  unfold tammyref01_Right.f
  exact Ev.step (fun k => tammyref01_Right.l0.eq_2 [] 0 k) (Ev.neg (by simp) (Ev.now _))

/-! ### Terms that may be -/
/-- May a term be, of so many ahead? -/
def mayS (l : List S62) (many k sym part : Int) (args : List Int) : Bool :=
  if mayIs k = true then (if mayHead l k sym part = true then (if (args.length : Int) = mayN l k sym then !(decide (idxI many args 0 ≥ 0)) else false) else false) else false
theorem may_is {l : List S62} {many k sym part : Int} {args : List Int} (hk : (Lit.int .i64 k).wf = true) : term_may.f l many k sym part args = some (mayS l many k sym part args) := by
  unfold term_may.f; rw [if_pos hk]; rfl
theorem idxI_all {many : Int} : ∀ {args : List Int} {i : Int}, 0 ≤ i → (∀ x ∈ args, oddB many x = false) → idxI many args i = -1
  | [], _, _, _ => rfl
  | x :: xs, i, hi, h => by
    rw [idxI, h x List.mem_cons_self, if_neg (by decide)]
    exact idxI_all (by omega) (fun y hy => h y (List.mem_cons_of_mem _ hy))
theorem idxI_some {many : Int} : ∀ {args : List Int} {i : Int}, 0 ≤ i → (∃ x ∈ args, oddB many x = true) → 0 ≤ idxI many args i
  | [], _, _, h => by obtain ⟨x, hx, _⟩ := h; cases hx
  | x :: xs, i, hi, h => by
    rw [idxI]
    by_cases e : oddB many x = true
    · rw [if_pos e]; exact hi
    · rw [if_neg e]
      obtain ⟨y, hy, h2⟩ := h
      rcases List.mem_cons.1 hy with rfl | hy
      · exact absurd h2 e
      · exact idxI_some (by omega) ⟨y, hy, h2⟩
theorem odd_false {many x : Int} : oddB many x = false ↔ 0 ≤ x ∧ x < many := by
  unfold oddB
  by_cases h : x < 0
  · rw [if_pos h]; constructor
    · intro h; cases h
    · intro h2; omega
  · rw [if_neg h]; constructor
    · intro h2; have := of_decide_eq_false h2; omega
    · intro h2; exact decide_eq_false (by omega)
theorem idxI_iff {many : Int} {args : List Int} : (!(decide (idxI many args 0 ≥ 0))) = true ↔ ∀ x ∈ args, 0 ≤ x ∧ x < many := by
  by_cases h : ∀ x ∈ args, oddB many x = false
  · rw [idxI_all (by omega) h]
    exact ⟨fun _ x hx => odd_false.1 (h x hx), fun _ => rfl⟩
  · have h2 : ∃ x ∈ args, oddB many x = true := by
      apply Classical.byContradiction
      intro h3
      exact h (fun x hx => by
        cases e : oddB many x
        · rfl
        · exact absurd ⟨x, hx, e⟩ h3)
    have h3 := idxI_some (i := 0) (by omega) h2
    constructor
    · intro h4; simp at h4; omega
    · intro h4
      obtain ⟨x, hx, ho⟩ := h2
      rw [odd_false.2 (h4 x hx)] at ho
      cases ho
/-- What the reference asks behind the parts. -/
def tailS (l : List S62) (k sym part : Int) (n : Int) : Bool :=
  if mayIs k = true then (if mayHead l k sym part = true then decide (n = mayN l k sym) else false) else false
theorem mayS_eq (l : List S62) (many k sym part : Int) (args : List Int) : mayS l many k sym part args = if (∀ x ∈ args, 0 ≤ x ∧ x < many) then tailS l k sym part args.length else false := by
  unfold mayS tailS
  by_cases h : ∀ x ∈ args, 0 ≤ x ∧ x < many
  · rw [if_pos h, idxI_iff.2 h]
    simp
  · rw [if_neg h]
    have : (!(decide (idxI many args 0 ≥ 0))) = false := by
      cases e : (!(decide (idxI many args 0 ≥ 0)))
      · rfl
      · exact absurd (idxI_iff.1 e) h
    rw [this]
    simp
theorem arity_in {l : List S62} {sym : Int} (h0 : 0 ≤ sym) (h1 : sym < l.length) : arityOf l sym = ((rd_T62 l sym).f1.size : Int) := by unfold arityOf; rw [if_pos h0, if_pos h1]
theorem arity_out {l : List S62} {sym : Int} (h : ¬ (0 ≤ sym ∧ sym < l.length)) : arityOf l sym = -1 := by
  unfold arityOf
  by_cases q : 0 ≤ sym
  · rw [if_pos q, if_neg (fun q2 => h ⟨q, q2⟩)]
  · rw [if_neg q]
theorem beq_dec (x y : Int) : (x == y) = decide (x = y) := by
  by_cases h : x = y
  · simp [h]
  · simp [h]
theorem tail_ev (l : List S62) (k sym part : Int) (args : List Int) :
    Ev (fun q => if sym ≥ 0 then tammyref03_may.j1 q l (args.length : Int) (decide (sym < (l.length : Int))) k sym part args else tammyref03_may.j1 q l (args.length : Int) false k sym part args) (tailS l k sym part args.length) := by
  have J3 : ∀ (x9 : Bool) (x95 : Bool), (x9 = true ↔ 0 ≤ sym ∧ sym < (l.length : Int)) → (x95 = true ↔ k = 4 ∨ k = 5) → k ≠ 0 → k ≠ 1 → k ≠ 2 → k ≠ 3 → Ev (fun q => tammyref03_may.j3 q l (args.length : Int) x9 k x95 k sym part args) (tailS l k sym part args.length) := by
    intro x9 x95 h9 h95 h0 h1 h2 h3
    refine Ev.step (fun q => tammyref03_may.j3.eq_2 l _ x9 k x95 k sym part args q) ?_
    by_cases e : x95 = true
    · refine Ev.pos e ?_
      have hk := h95.1 e
      have t1 : mayIs k = true := by unfold mayIs kindIs; rw [if_neg h3]; exact decide_eq_true (by omega)
      have t3 : mayN l k sym = 2 := by unfold mayN kindN; rw [if_neg h3, if_pos hk]
      have t2 : mayHead l k sym part = if sym = 0 then part == 0 else false := by unfold mayHead; rw [if_neg h2, if_neg h3, if_neg (by omega)]
      unfold tailS
      rw [if_pos t1, t2, t3]
      by_cases s0 : sym = 0
      · refine Ev.pos s0 ?_
        rw [if_pos s0]
        by_cases p0 : part = 0
        · refine Ev.pos p0 ?_; rw [if_pos (by simpa using p0), ← beq_dec]; exact Ev.now _
        · refine Ev.neg p0 ?_; rw [if_neg (by simpa using p0)]; exact Ev.now _
      · refine Ev.neg s0 ?_; rw [if_neg s0, if_neg (by decide)]; exact Ev.now _
    · refine Ev.neg e ?_
      have hk : ¬ (k = 4 ∨ k = 5) := fun h => e (h95.2 h)
      by_cases e6 : k = 6
      · refine Ev.pos e6 ?_
        have t1 : mayIs k = true := by unfold mayIs kindIs; rw [if_neg h3]; exact decide_eq_true (by omega)
        have t3 : mayN l k sym = 1 := by unfold mayN kindN; rw [if_neg h3, if_neg hk, if_pos e6]
        have t2 : mayHead l k sym part = if part ≥ 0 then decide (part < arityOf l sym) else false := by unfold mayHead; rw [if_neg h2, if_neg h3, if_pos e6]
        unfold tailS
        rw [if_pos t1, t2, t3]
        by_cases s9 : x9 = true
        · refine Ev.pos s9 ?_
          have hs := h9.1 s9
          rw [arity_in hs.1 hs.2]
          by_cases p0 : part ≥ 0
          · refine Ev.pos p0 (Ev.pos hs.1 (Ev.pos hs.2 ?_))
            rw [if_pos p0]
            by_cases p1 : part < ((rd_T62 l sym).f1.size : Int)
            · refine Ev.pos p1 ?_; rw [if_pos (decide_eq_true p1), ← beq_dec]; exact Ev.now _
            · refine Ev.neg p1 ?_; rw [if_neg (by simp [p1])]; exact Ev.now _
          · refine Ev.neg p0 ?_; rw [if_neg p0, if_neg (by decide)]; exact Ev.now _
        · refine Ev.neg s9 ?_
          rw [arity_out (fun h => s9 (h9.2 h))]
          have : (if part ≥ 0 then decide (part < -1) else false) = false := by
            split
            · exact decide_eq_false (by omega)
            · rfl
          rw [this, if_neg (by decide)]; exact Ev.now _
      · refine Ev.neg e6 ?_
        have t1 : mayIs k = false := by unfold mayIs kindIs; rw [if_neg h3]; exact decide_eq_false (by omega)
        unfold tailS
        rw [t1, if_neg (by decide)]; exact Ev.now _
  have J2 : ∀ (x9 : Bool) (x47 : Bool), (x9 = true ↔ 0 ≤ sym ∧ sym < (l.length : Int)) → (x47 = true ↔ k = 0 ∨ k = 1) → Ev (fun q => tammyref03_may.j2 q l (args.length : Int) x9 k x47 k sym part args) (tailS l k sym part args.length) := by
    intro x9 x47 h9 h47
    refine Ev.step (fun q => tammyref03_may.j2.eq_2 l _ x9 k x47 k sym part args q) ?_
    by_cases e : x47 = true
    · refine Ev.pos e ?_
      have hk := h47.1 e
      have t1 : mayIs k = true := by unfold mayIs kindIs; rw [if_neg (by omega)]; exact decide_eq_true (by omega)
      have t3 : mayN l k sym = 0 := by unfold mayN kindN; rw [if_neg (by omega), if_neg (by omega), if_neg (by omega)]
      have t2 : mayHead l k sym part = if sym = 0 then part == 0 else false := by unfold mayHead; rw [if_neg (by omega), if_neg (by omega), if_neg (by omega)]
      unfold tailS
      rw [if_pos t1, t2, t3]
      by_cases s0 : sym = 0
      · refine Ev.pos s0 ?_
        rw [if_pos s0]
        by_cases p0 : part = 0
        · refine Ev.pos p0 ?_; rw [if_pos (by simpa using p0), ← beq_dec]; exact Ev.now _
        · refine Ev.neg p0 ?_; rw [if_neg (by simpa using p0)]; exact Ev.now _
      · refine Ev.neg s0 ?_; rw [if_neg s0, if_neg (by decide)]; exact Ev.now _
    · refine Ev.neg e ?_
      have hk : ¬ (k = 0 ∨ k = 1) := fun h => e (h47.2 h)
      by_cases e2 : k = 2
      · refine Ev.pos e2 ?_
        have t1 : mayIs k = true := by unfold mayIs kindIs; rw [if_neg (by omega)]; exact decide_eq_true (by omega)
        have t3 : mayN l k sym = 0 := by unfold mayN kindN; rw [if_neg (by omega), if_neg (by omega), if_neg (by omega)]
        have t2 : mayHead l k sym part = if sym ≥ 0 then part == 0 else false := by unfold mayHead; rw [if_pos e2]
        unfold tailS
        rw [if_pos t1, t2, t3]
        by_cases s0 : sym ≥ 0
        · refine Ev.pos s0 ?_
          rw [if_pos s0]
          by_cases p0 : part = 0
          · refine Ev.pos p0 ?_; rw [if_pos (by simpa using p0), ← beq_dec]; exact Ev.now _
          · refine Ev.neg p0 ?_; rw [if_neg (by simpa using p0)]; exact Ev.now _
        · refine Ev.neg s0 ?_; rw [if_neg s0, if_neg (by decide)]; exact Ev.now _
      · refine Ev.neg e2 ?_
        by_cases e3 : k = 3
        · refine Ev.pos e3 ?_
          have t1 : mayIs k = true := by unfold mayIs; rw [if_pos e3]
          have t3 : mayN l k sym = arityOf l sym := by unfold mayN; rw [if_pos e3]
          have t2 : mayHead l k sym part = if arityOf l sym ≥ 0 then part == 0 else false := by unfold mayHead; rw [if_neg e2, if_pos e3]
          unfold tailS
          rw [if_pos t1, t2, t3]
          by_cases s9 : x9 = true
          · refine Ev.pos s9 ?_
            have hs := h9.1 s9
            rw [arity_in hs.1 hs.2, if_pos (by omega : ((rd_T62 l sym).f1.size : Int) ≥ 0)]
            by_cases p0 : part = 0
            · refine Ev.pos p0 (Ev.pos hs.1 (Ev.pos hs.2 ?_)); rw [if_pos (by simpa using p0), ← beq_dec]; exact Ev.now _
            · refine Ev.neg p0 ?_; rw [if_neg (by simpa using p0)]; exact Ev.now _
          · refine Ev.neg s9 ?_
            rw [arity_out (fun h => s9 (h9.2 h)), show (if (-1 : Int) ≥ 0 then part == 0 else false) = false from rfl, if_neg (by decide)]
            exact Ev.now _
        · refine Ev.neg e3 ?_
          by_cases e4 : k = 4
          · refine Ev.pos e4 ?_
            exact J3 x9 _ h9 ⟨fun _ => .inl e4, fun _ => by simpa using e4⟩ (by omega) (by omega) e2 e3
          · refine Ev.neg e4 ?_
            exact J3 x9 _ h9 (by rw [beq_iff_eq]; omega) (by omega) (by omega) e2 e3
  have J1 : ∀ (x9 : Bool), (x9 = true ↔ 0 ≤ sym ∧ sym < (l.length : Int)) → Ev (fun q => tammyref03_may.j1 q l (args.length : Int) x9 k sym part args) (tailS l k sym part args.length) := by
    intro x9 h9
    refine Ev.step (fun q => tammyref03_may.j1.eq_2 l _ x9 k sym part args q) ?_
    by_cases e : k = 0
    · exact Ev.pos e (J2 x9 _ h9 (by rw [beq_iff_eq]; omega))
    · exact Ev.neg e (J2 x9 _ h9 (by rw [beq_iff_eq]; omega))
  by_cases s0 : sym ≥ 0
  · exact Ev.pos s0 (J1 _ (by rw [decide_eq_true_iff]; exact ⟨fun h => ⟨s0, h⟩, fun h => h.2⟩))
  · exact Ev.neg s0 (J1 _ ⟨fun h => absurd h (by decide), fun h => absurd h.1 (by omega)⟩)
theorem rmay_from (l : List S62) (many k sym part : Int) {args : List Int} (ha : Sh args) : ∀ (m i : Nat), i + m = args.length → Ev (fun q => tammyref03_may.l0 q l many (i : Int) k sym part args) (if (∀ x ∈ args.drop i, 0 ≤ x ∧ x < many) then tailS l k sym part args.length else false)
  | 0, i, h => by
    refine Ev.step (fun q => tammyref03_may.l0.eq_2 l many i k sym part args q) (Ev.neg (by omega) ?_)
    rw [List.drop_of_length_le (by omega), if_pos (fun x hx => by cases hx)]
    exact tail_ev l k sym part args
  | m + 1, i, h => by
    have hi : i < args.length := by omega
    refine Ev.step (fun q => tammyref03_may.l0.eq_2 l many i k sym part args q) (Ev.pos (by omega) (Ev.pos (by omega) ?_))
    rw [rd_at hi, drop_at hi]
    have hw : wrap64 ((i : Int) + 1) = ((i + 1 : Nat) : Int) := by unfold Sh at ha; rw [w64 (by omega)]; rfl
    rw [hw]
    by_cases e1 : args[i] < 0
    · rw [if_neg (fun h => by have := h _ List.mem_cons_self; omega)]
      exact Ev.pos e1 (Ev.now _)
    · refine Ev.neg e1 ?_
      by_cases e2 : args[i] ≥ many
      · rw [if_neg (fun h => by have := h _ List.mem_cons_self; omega)]
        exact Ev.pos e2 (Ev.now _)
      · refine Ev.neg e2 ?_
        have ih := rmay_from l many k sym part ha m (i + 1) (by omega)
        have hiff : (∀ x ∈ args[i] :: args.drop (i + 1), 0 ≤ x ∧ x < many) ↔ (∀ x ∈ args.drop (i + 1), 0 ≤ x ∧ x < many) := by
          constructor
          · intro h x hx; exact h x (List.mem_cons_of_mem _ hx)
          · intro h x hx
            rcases List.mem_cons.1 hx with rfl | hx
            · omega
            · exact h x hx
        simp only [hiff]
        exact ih
theorem rmay_ev (l : List S62) (many k sym part : Int) {args : List Int} (ha : Sh args) : Ev (fun q => tammyref03_may.f q l many k sym part args) (mayS l many k sym part args) := by
  rw [mayS_eq]
  exact rmay_from l many k sym part ha args.length 0 (by omega)
end Go.Proofs.Ytiliknfmlmdmbaa.T
