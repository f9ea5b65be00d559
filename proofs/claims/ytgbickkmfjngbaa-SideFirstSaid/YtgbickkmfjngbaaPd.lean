/- Plainly: the example at the head of all statements; the variables. -/
import Derived.Test.YtgbickkmfjngbaaPc
import Derived.Test.YtgbickkmfjngbaaKx5
import Derived.Test.YtgbickkmfjngbaaKx14
namespace Go.Proofs.Ytgbickkmfjngbaa.K
open Go.RowKit Go.Proofs.YtgbickkmfjngbaaW.PrintWords Go.Proofs.YtgbickkmfjngbaaW.PrintLast Go.Proofs.YtgbickkmfjngbaaG.Words
set_option linter.unusedVariables false
set_option linter.unusedSimpArgs false

theorem shown_at : tammylaw08_shown.f 12 = some true := by kernel_rfl
theorem shown_is : Ev (fun k => tammylaw08_shown.f k) true := Ev.of (fun k => tammylaw08_shown.mono k) shown_at

theorem toList_inj {a b : ByteArray} : a.toList = b.toList ↔ a = b := by
  refine ⟨fun h => ?_, fun h => by rw [h]⟩
  rw [Go.ByteArray.toList_eq, Go.ByteArray.toList_eq] at h
  cases a; cases b
  simpa using h
instance instDecBA : DecidableEq ByteArray := fun a b => decidable_of_decidable_of_iff (toList_inj (a := a) (b := b))
instance instMemBA (a : ByteArray) (l : List ByteArray) : Decidable (a ∈ l) := decidable_of_decidable_of_iff (p := l.any (fun b => decide (b = a)) = true) (by simp)
theorem rdOf_get {xs : List ByteArray} {i : Nat} (h : i < xs.length) : rdOf ByteArray.empty xs (i : Int) = xs[i] := by
  unfold rdOf
  rw [List.getD_eq_getElem?_getD, Int.toNat_natCast, List.getElem?_eq_getElem h]; rfl
theorem rd38_get {e : List S38} {i : Nat} (h : i < e.length) : rd_T38 e (i : Int) = e[i] := by
  unfold rd_T38
  rw [List.getD_eq_getElem?_getD, Int.toNat_natCast, List.getElem?_eq_getElem h]; rfl
theorem Index_l0 (l : List ByteArray) (a : ByteArray) (hl : l.length ≤ 600) : ∀ (m i : Nat), i + m = l.length → ∃ r, Ev (fun k => slices_Index_string_string.l0 k l a (l.length : Int) (i : Int)) r ∧ (0 ≤ r ↔ a ∈ l.drop i)
  | m, i, hm => by
    refine Ev.exStep (fun k => slices_Index_string_string.l0.eq_2 _ _ _ _ k) ?_
    cases m with
    | zero => exact Ev.ite (fun h => absurd h (by omega)) (fun _ => Ev.exNow _ (by rw [List.drop_eq_nil_of_le (by omega)]; simp))
    | succ m =>
      have hi : i < l.length := by omega
      rw [List.drop_eq_getElem_cons hi, w64 (by omega), rdOf_get hi]
      refine Ev.ite (fun _ => ?_) (fun h => absurd (by omega) h)
      refine Ev.ite (fun _ => ?_) (fun h => absurd (by omega) h)
      refine Ev.ite (fun _ => ?_) (fun h => absurd (by omega) h)
      refine Ev.ite (fun h => Ev.exNow _ ⟨fun _ => by rw [toList_inj.1 h]; exact List.mem_cons_self, fun _ => by omega⟩) (fun h => ?_)
      obtain ⟨r, er, hr⟩ := Index_l0 l a hl m (i + 1) (by omega)
      exact ⟨r, er, by rw [hr, List.mem_cons]; exact ⟨fun h2 => .inr h2, fun h2 => h2.resolve_left (fun h3 => h (toList_inj.2 h3))⟩⟩
theorem Contains_is (l : List ByteArray) (a : ByteArray) (hl : l.length ≤ 600) : Ev (fun k => slices_Contains_string_string.f k l a) (decide (a ∈ l)) := by
  unfold slices_Contains_string_string.f slices_Index_string_string.f
  obtain ⟨r, er, hr⟩ := Index_l0 l a hl l.length 0 (by omega)
  have h2 : decide (r ≥ 0) = decide (a ∈ l) := by rw [decide_eq_decide]; simpa using hr
  exact Ev.bind er (by rw [h2]; exact Ev.now _)
theorem At_l0 (l : List ByteArray) (a : ByteArray) (hl : l.length ≤ 600) : ∀ (m i : Nat), i + m = l.length → ∃ r, Ev (fun k => tammyref08_At.l0 k l a (i : Int)) r ∧ (0 ≤ r ↔ a ∈ l.drop i)
  | m, i, hm => by
    refine Ev.exStep (fun k => tammyref08_At.l0.eq_2 _ _ _ k) ?_
    cases m with
    | zero => exact Ev.ite (fun h => absurd h (by omega)) (fun _ => Ev.exNow _ (by rw [List.drop_eq_nil_of_le (by omega)]; simp))
    | succ m =>
      have hi : i < l.length := by omega
      rw [List.drop_eq_getElem_cons hi, w64 (by omega), rdOf_get hi]
      refine Ev.ite (fun _ => ?_) (fun h => absurd (by omega) h)
      refine Ev.ite (fun _ => ?_) (fun h => absurd (by omega) h)
      refine Ev.ite (fun h => Ev.exNow _ ⟨fun _ => by rw [toList_inj.1 h]; exact List.mem_cons_self, fun _ => by omega⟩) (fun h => ?_)
      obtain ⟨r, er, hr⟩ := At_l0 l a hl m (i + 1) (by omega)
      exact ⟨r, er, by rw [hr, List.mem_cons]; exact ⟨fun h2 => .inr h2, fun h2 => h2.resolve_left (fun h3 => h (toList_inj.2 h3.symm))⟩⟩
/-- The variables, plainly. -/
def vars : List S38 → List ByteArray → List ByteArray
  | [], out => out
  | x :: xs, out => if x.f0 = 2 ∧ x.f1 ∉ out then vars xs (out ++ [x.f1]) else vars xs out
theorem vars_len : ∀ (xs : List S38) (out : List ByteArray), (vars xs out).length ≤ xs.length + out.length
  | [], out => by rw [vars]; simp
  | x :: xs, out => by
    rw [vars]
    split
    · have := vars_len xs (out ++ [x.f1]); simp at this ⊢; omega
    · have := vars_len xs out; simp at this ⊢; omega
theorem vars_mem {a : ByteArray} : ∀ (xs : List S38) (out : List ByteArray), a ∈ vars xs out ↔ (a ∈ out ∨ ∃ x ∈ xs, x.f0 = 2 ∧ x.f1 = a)
  | [], out => by rw [vars]; simp
  | x :: xs, out => by
    rw [vars]
    split
    · next h =>
      rw [vars_mem xs]
      simp only [List.mem_append, List.mem_cons, List.not_mem_nil, or_false, exists_eq_or_imp]
      constructor
      · rintro ((h1 | h1) | h1)
        · exact .inl h1
        · exact .inr (.inl ⟨h.1, h1.symm⟩)
        · exact .inr (.inr h1)
      · rintro (h1 | h1 | h1)
        · exact .inl (.inl h1)
        · exact .inl (.inr h1.2.symm)
        · exact .inr h1
    · next h =>
      rw [vars_mem xs]
      simp only [List.mem_cons, exists_eq_or_imp]
      constructor
      · rintro (h1 | h1)
        · exact .inl h1
        · exact .inr (.inr h1)
      · rintro (h1 | h1 | h1)
        · exact .inl h1
        · refine .inl (Classical.byContradiction fun h2 => h ⟨h1.1, ?_⟩)
          rw [h1.2]; exact h2
        · exact .inr h1
def cnt (a : ByteArray) : List ByteArray → Nat
  | [] => 0
  | b :: l => (if b = a then 1 else 0) + cnt a l
theorem cnt_app (a : ByteArray) : ∀ l m, cnt a (l ++ m) = cnt a l + cnt a m
  | [], m => by simp [cnt]
  | b :: l, m => by rw [List.cons_append, cnt, cnt, cnt_app a l m]; omega
theorem cnt_zero {a : ByteArray} : ∀ {l}, a ∉ l → cnt a l = 0
  | [], _ => rfl
  | b :: l, h => by
    rw [cnt, cnt_zero (fun h2 => h (List.mem_cons_of_mem _ h2)), if_neg (fun h2 => h (by rw [h2]; exact List.mem_cons_self))]
theorem cnt_pos {a : ByteArray} : ∀ {l}, a ∈ l → 1 ≤ cnt a l
  | b :: l, h => by
    rw [cnt]
    rcases List.mem_cons.1 h with rfl | h
    · rw [if_pos rfl]; omega
    · have := cnt_pos h; omega
theorem vars_cnt {a : ByteArray} : ∀ (xs : List S38) (out : List ByteArray), cnt a out ≤ 1 → cnt a (vars xs out) ≤ 1
  | [], out, h => h
  | x :: xs, out, h => by
    rw [vars]
    split
    · next h2 =>
      refine vars_cnt xs _ ?_
      rw [cnt_app, cnt, cnt]
      by_cases h3 : x.f1 = a
      · rw [← h3, cnt_zero h2.2]; simp
      · rw [if_neg h3]; omega
    · exact vars_cnt xs out h
theorem sideVars_l0 {e : List S38} (hl : e.length ≤ 600) : ∀ (m i : Nat) (out : List ByteArray), i + m = e.length → out.length ≤ i → Ev (fun k => side_Vars.l0 k out e (e.length : Int) (i : Int)) (vars (e.drop i) out)
  | m, i, out, hm, ho => by
    refine Ev.step (fun k => side_Vars.l0.eq_2 _ _ _ _ k) ?_
    cases m with
    | zero => exact Ev.neg (by omega) (by rw [List.drop_eq_nil_of_le (by omega)]; exact Ev.now _)
    | succ m =>
      have hi : i < e.length := by omega
      have hw : wrap64 ((i : Int) + 1) = ((i + 1 : Nat) : Int) := by rw [w64 (by omega)]; omega
      rw [List.drop_eq_getElem_cons hi, hw, rd38_get hi, vars]
      refine Ev.pos (by omega) (Ev.pos (by omega) (Ev.pos (by omega) ?_))
      by_cases h2 : e[i].f0 = 2
      · refine Ev.pos h2 (Ev.bind (Contains_is out _ (by omega)) ?_)
        by_cases h3 : e[i].f1 ∈ out
        · rw [if_neg (by simp [h3])]
          exact Ev.pos (decide_eq_true h3) (sideVars_l0 hl m (i + 1) out (by omega) (by omega))
        · rw [if_pos ⟨h2, h3⟩]
          exact Ev.neg (by simp [h3]) (Ev.pos (by omega) (sideVars_l0 hl m (i + 1) _ (by omega) (by simp; omega)))
      · rw [if_neg (by simp [h2])]
        exact Ev.neg h2 (sideVars_l0 hl m (i + 1) out (by omega) (by omega))
theorem sideVars_is {e : List S38} (hl : e.length ≤ 600) : Ev (fun k => side_Vars.f k e) (vars e []) := by
  unfold side_Vars.f
  exact sideVars_l0 hl e.length 0 [] (by omega) (by simp)
theorem refVars_l0 {e : List S38} (hl : e.length ≤ 600) : ∀ (m i : Nat) (out : List ByteArray), i + m = e.length → out.length ≤ i → Ev (fun k => tammyref08_Vars.l0 k e out (i : Int)) (vars (e.drop i) out)
  | m, i, out, hm, ho => by
    refine Ev.step (fun k => tammyref08_Vars.l0.eq_2 _ _ _ k) ?_
    cases m with
    | zero => exact Ev.neg (by omega) (by rw [List.drop_eq_nil_of_le (by omega)]; exact Ev.now _)
    | succ m =>
      have hi : i < e.length := by omega
      have hw : wrap64 ((i : Int) + 1) = ((i + 1 : Nat) : Int) := by rw [w64 (by omega)]; omega
      rw [List.drop_eq_getElem_cons hi, hw, rd38_get hi, vars]
      refine Ev.pos (by omega) (Ev.pos (by omega) ?_)
      obtain ⟨r, er, hr⟩ := At_l0 out e[i].f1 (by omega) out.length 0 (by omega)
      rw [List.drop_zero] at hr
      refine Ev.bind (a := r) (by unfold tammyref08_At.f; exact er) ?_
      by_cases h2 : e[i].f0 = 2
      · refine Ev.pos h2 ?_
        by_cases h3 : e[i].f1 ∈ out
        · rw [if_neg (by simp [h3])]
          exact Ev.neg (by have := hr.2 h3; omega) (refVars_l0 hl m (i + 1) out (by omega) (by omega))
        · rw [if_pos ⟨h2, h3⟩]
          exact Ev.pos (by have : ¬ (0 ≤ r) := fun h => h3 (hr.1 h); omega) (Ev.pos (by omega) (refVars_l0 hl m (i + 1) _ (by omega) (by simp; omega)))
      · rw [if_neg (by simp [h2])]
        exact Ev.neg h2 (refVars_l0 hl m (i + 1) out (by omega) (by omega))
theorem refVars_is {e : List S38} (hl : e.length ≤ 600) : Ev (fun k => tammyref08_Vars.f k e) (vars e []) := by
  unfold tammyref08_Vars.f
  exact refVars_l0 hl e.length 0 [] (by omega) (by simp)
theorem Texts_l0 (l : List ByteArray) (hl : l.length ≤ 600) : ∀ (m i : Nat), i + m = l.length → Ev (fun k => tammyref08_Texts.l0 k l l (i : Int)) true
  | m, i, hm => by
    refine Ev.step (fun k => tammyref08_Texts.l0.eq_2 _ _ _ k) ?_
    cases m with
    | zero => exact Ev.neg (by omega) (Ev.now _)
    | succ m =>
      have hw : wrap64 ((i : Int) + 1) = ((i + 1 : Nat) : Int) := by rw [w64 (by omega)]; omega
      rw [hw]
      exact Ev.pos (by omega) (Ev.pos (by omega) (Ev.pos (by omega) (Ev.pos rfl (Texts_l0 l hl m (i + 1) (by omega)))))
theorem Texts_is (l : List ByteArray) (hl : l.length ≤ 600) : Ev (fun k => tammyref08_Texts.f k l l) true := by
  unfold tammyref08_Texts.f
  exact Ev.pos rfl (Texts_l0 l hl l.length 0 (by omega))
end Go.Proofs.Ytgbickkmfjngbaa.K
