/- A row's arguments opened: slices of constructors, slices of nodes. -/
import Derived.Deep.Slices
import Derived.Deep.Fields
import Derived.ChangeSame
import Derived.ChangeArms
import Derived.Test.YtgbickkmfjngbaaKx0
namespace Go.Proofs.Ytgbickkmfjngbaa.K
open Go.ChangeShapes Go.WideShapes Go.Deep Go.RowKit Go.Proofs.YtgbickkmfjngbaaW.PrintWords Go.Proofs.YtgbickkmfjngbaaW.PrintLast
set_option linter.unusedVariables false
set_option linter.unusedSimpArgs false
section
variable {H : Type} {enc : TypeId × Value → H} {P : Program} {w : World} {base : Nat} {spare : Nat → Bool} {held : Bool}
theorem list_of {α : Type} {P : Nat → α → Prop} : ∀ (n : Nat), (∀ i, i < n → ∃ x, P i x) → ∃ xs : List α, xs.length = n ∧ ∀ j x, xs[j]? = some x → P j x
  | 0, _ => ⟨[], rfl, fun j x h => by simp at h⟩
  | n + 1, h => by
    obtain ⟨xs, hl, hx⟩ := list_of n (fun i hi => h i (by omega))
    obtain ⟨y, hy⟩ := h n (by omega)
    refine ⟨xs ++ [y], by simp [hl], fun j x hj => ?_⟩
    by_cases hjl : j < xs.length
    · rw [List.getElem?_append_left hjl] at hj; exact hx j x hj
    · rw [List.getElem?_append_right (by omega)] at hj
      by_cases h0 : j = n
      · subst h0; rw [hl, Nat.sub_self] at hj; simp at hj; rw [← hj]; exact hy
      · rw [List.getElem?_eq_none (by simp; omega)] at hj; cases hj
/-- Cells of every field of every element. -/
theorem rows_fields {t e : TypeId} {fs : Array Field} {fuel : Nat} {cs : List Value} {x : DataW H × List MemPlace} (ht : P.underlying t = some (.slice e)) (he : P.underlying e = some (.struct fs))
    (hone : oneCellFields P fs = true) (hC : P.cellsOf e = fs.size) (h : DataW.trod enc P w base spare held fuel t cs = some x) :
    cs = [.slice none 0 0] ∨ ∃ (a : Addr) (len cap : Nat), cs = [.slice (some a) len cap] ∧ len ≤ cap ∧ cap ≤ maxLen ∧
      ∀ i, i < len → ∃ n, ∀ (j : Nat) (f : Field), fs[j]? = some f → ∃ (v : Value) (y : DataW H × List MemPlace), w.cell? (a.add (i * fs.size + j)) = some v ∧ DataW.trod enc P w base spare held n f.type [v] = some y := by
  rcases open_slice ht h with h0 | ⟨a, len, cap, m, n, D, Pl, hcs, hb, hl, hm, hmm, hx, hi⟩
  · exact .inl h0.1
  refine .inr ⟨a, len, cap, hcs, hl, hm, fun i him => ?_⟩
  have hlm : len ≤ m := by rw [hmm]; split <;> omega
  obtain ⟨ds, hc, ht'⟩ := hi i (by omega)
  rw [hC] at hc
  obtain ⟨ys, n', hn', hy, hlen, hyl, hf⟩ := DataW.trod_struct he ht'
  obtain ⟨_, hcl, hat⟩ := World.cells?_some hc
  refine ⟨n', fun j f hj => ?_⟩
  obtain ⟨ho, hk⟩ := hone_of hone j f hj
  have hjl : j < fs.size := (Array.getElem?_eq_some_iff.1 hj).1
  have hdl : j < ds.length := by omega
  have h1 := hf j f hj
  rw [ho, hk, take1_drop ds j (.bool false) hdl] at h1
  refine ⟨ds.getD j (.bool false), ys[j]'(by omega), ?_, by rw [h1]; exact List.getElem?_eq_getElem (by omega)⟩
  rw [← Go.Deep.add_add, hat j hjl, List.getD_eq_getElem?_getD, List.getElem?_eq_getElem hdl]
  rfl
end
section
variable {H : Type} {enc : TypeId × Value → H} {w : World} {base : Nat} {spare : Nat → Bool} {held : Bool}
theorem one_int {k : IntKind} {t : TypeId} {n : Nat} {v : Value} {y : DataW H × List MemPlace} (ht : Try.prog.underlying t = some (.int k)) (h : DataW.trod enc Try.prog w base spare held n t [v] = some y) : ∃ x, v = .int k x ∧ (Lit.int k x).wf = true := by
  obtain ⟨x, hx, _, hw⟩ := DataW.trod_int ht h
  exact ⟨x, by injection hx, hw⟩
theorem one_string {t : TypeId} {n : Nat} {v : Value} {y : DataW H × List MemPlace} (ht : Try.prog.underlying t = some .string) (h : DataW.trod enc Try.prog w base spare held n t [v] = some y) : ∃ x, v = .string x ∧ x.size ≤ maxLen := by
  obtain ⟨x, hx, _, hw⟩ := DataW.trod_string ht h
  exact ⟨x, by injection hx, hw⟩
theorem slice_of {e t : TypeId} {n : Nat} {v : Value} {y : DataW H × List MemPlace} (ht : Try.prog.underlying t = some (.slice e)) (h : DataW.trod enc Try.prog w base spare held n t [v] = some y) : ∃ a len cap, v = .slice a len cap := by
  rcases open_slice ht h with h0 | ⟨a, len, cap, m, k, D, Pl, hcs, _⟩
  · exact ⟨none, 0, 0, by injection h0.1⟩
  · exact ⟨some a, len, cap, by injection hcs⟩
/-- A slice of nodes. -/
theorem open23 {a : Option Addr} {len cap fuel : Nat} {x : DataW H × List MemPlace} (h : DataW.trod enc Try.prog w base spare held fuel 23 [.slice a len cap] = some x) :
    ∃ xs : List S38, Kd.C k38 w a xs.length xs ∧ len = xs.length ∧ xs.length ≤ cap ∧ xs.length ≤ 9223372036854775807 := by
  rcases rows_fields Try.underlying23 Try.underlying38 (by kernel_rfl) (by kernel_rfl) h with h0 | ⟨b, l, c, hcs, hl, hm, hi⟩
  · simp at h0
    obtain ⟨rfl, rfl, rfl⟩ := h0
    exact ⟨[], ⟨rfl, by simp, fun h => absurd h (by simp)⟩, rfl, by simp, by simp⟩
  · simp at hcs
    obtain ⟨rfl, rfl, rfl⟩ := hcs
    have hm' : cap ≤ 9223372036854775807 := hm
    obtain ⟨xs, hlen, hx⟩ := list_of (P := fun i (x : S38) => w.cell? (b.add (i * 3 + 0)) = some (.int .i64 x.f0) ∧ w.cell? (b.add (i * 3 + 1)) = some (.string x.f1) ∧ w.cell? (b.add (i * 3 + 2)) = some (.int .i64 x.f2)) len (fun i hil => by
      obtain ⟨n, hn⟩ := hi i hil
      obtain ⟨v0, y0, c0, t0⟩ := hn 0 _ rfl
      obtain ⟨v1, y1, c1, t1⟩ := hn 1 _ rfl
      obtain ⟨v2, y2, c2, t2⟩ := hn 2 _ rfl
      obtain ⟨n0, rfl, _⟩ := one_int (k := .i64) (by kernel_rfl) t0
      obtain ⟨n1, rfl, _⟩ := one_string (by kernel_rfl) t1
      obtain ⟨n2, rfl, _⟩ := one_int (k := .i64) (by kernel_rfl) t2
      exact ⟨⟨n0, n1, n2⟩, c0, c1, c2⟩)
    refine ⟨xs, ⟨rfl, by omega, fun _ => ⟨b, rfl, fun j p hj => ⟨_, rfl, k38_mk w p, fun i u hiu => ?_⟩⟩⟩, by omega, by omega, by omega⟩
    obtain ⟨h0, h1, h2⟩ := hx j p hj
    match i, hiu with
    | 0, hiu => cases hiu; exact h0
    | 1, hiu => cases hiu; exact h1
    | 2, hiu => cases hiu; exact h2
/-- A slice of constructors. -/
theorem open22 {a : Option Addr} {len cap fuel : Nat} {x : DataW H × List MemPlace} (h : DataW.trod enc Try.prog w base spare held fuel 22 [.slice a len cap] = some x) :
    ∃ xs : List S52, Kd.C k52 w a xs.length xs ∧ len = xs.length ∧ xs.length ≤ cap ∧ xs.length ≤ 9223372036854775807 ∧ ∀ x ∈ xs, x.f1.size ≤ 9223372036854775807 := by
  rcases rows_fields Try.underlying22 Try.underlying52 (by kernel_rfl) (by kernel_rfl) h with h0 | ⟨b, l, c, hcs, hl, hm, hi⟩
  · simp at h0
    obtain ⟨rfl, rfl, rfl⟩ := h0
    exact ⟨[], ⟨rfl, by simp, fun h => absurd h (by simp)⟩, rfl, by simp, by simp, by simp⟩
  · simp at hcs
    obtain ⟨rfl, rfl, rfl⟩ := hcs
    have hm' : cap ≤ 9223372036854775807 := hm
    obtain ⟨xs, hlen, hx⟩ := list_of (P := fun i (x : S52) => (w.cell? (b.add (i * 2 + 0)) = some (.string x.f0) ∧ w.cell? (b.add (i * 2 + 1)) = some (.string x.f1)) ∧ x.f1.size ≤ 9223372036854775807) len (fun i hil => by
      obtain ⟨n, hn⟩ := hi i hil
      obtain ⟨v0, y0, c0, t0⟩ := hn 0 _ rfl
      obtain ⟨v1, y1, c1, t1⟩ := hn 1 _ rfl
      obtain ⟨n0, rfl, _⟩ := one_string (by kernel_rfl) t0
      obtain ⟨n1, rfl, hs⟩ := one_string (by kernel_rfl) t1
      exact ⟨⟨n0, n1⟩, ⟨c0, c1⟩, hs⟩)
    refine ⟨xs, ⟨rfl, by omega, fun _ => ⟨b, rfl, fun j p hj => ⟨_, rfl, k52_mk w p, fun i u hiu => ?_⟩⟩⟩, by omega, by omega, by omega, fun x hxm => ?_⟩
    · obtain ⟨⟨h0, h1⟩, _⟩ := hx j p hj
      match i, hiu with
      | 0, hiu => cases hiu; exact h0
      | 1, hiu => cases hiu; exact h1
    · obtain ⟨j, hj, rfl⟩ := List.getElem_of_mem hxm
      exact (hx j _ (List.getElem?_eq_getElem hj)).2
end
end Go.Proofs.Ytgbickkmfjngbaa.K
