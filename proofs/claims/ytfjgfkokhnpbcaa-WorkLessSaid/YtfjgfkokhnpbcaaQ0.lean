/- Opening what a law of the Work seat is given: pairs. -/
import Derived.OpenShut
import Derived.WideShapes
import Derived.ChangeArms
import Derived.Laws.IdiomArrays
import Derived.SizedLaws
import Derived.Test.YtfjgfkokhnpbcaaUx0
namespace Go.Proofs.Ytfjgfkokhnpbcaa.U
open Go.ChangeShapes Go.WideShapes Go.RowKit
set_option linter.unusedVariables false
theorem arr2 {cs : Array Value} (h : cs.size = 2) : ∃ a b, cs = #[a, b] := by
  obtain ⟨l⟩ := cs
  match l, h with
  | [a, b], _ => exact ⟨a, b, rfl⟩
section
variable {H : Type} {enc : TypeId × Value → H} {w : World} {base : Nat} {spare : Nat → Bool} {held : Bool}
theorem okWide_pair {r : Reach} {b0 : Nat} {v : Value} (h : Value.okWide Try.prog w r b0 30 v) : ∃ a b, v = .agg #[a, b] := by
  have ht := Try.underlying30
  simp only [Value.okWide, ht] at h
  obtain ⟨cs, rfl, h2, _⟩ := h
  obtain ⟨a, b, rfl⟩ := arr2 (h2.trans (by kernel_rfl))
  exact ⟨a, b, rfl⟩
theorem one_int {k : IntKind} {t : TypeId} {n : Nat} {v : Value} {y : DataW H × List MemPlace} (ht : Try.prog.underlying t = some (.int k)) (h : DataW.trod enc Try.prog w base spare held n t [v] = some y) : ∃ x, v = .int k x ∧ (Lit.int k x).wf = true := by
  obtain ⟨x, hx, _, hw⟩ := DataW.trod_int ht h
  exact ⟨x, by injection hx, hw⟩
theorem cells3 : Try.prog.cellsOf 3 = 1 := by kernel_rfl
theorem open30 {a b : Value} {fuel : Nat} {x : DataW H × List MemPlace} (h : DataW.trod enc Try.prog w base spare held fuel 30 [a, b] = some x) :
    ∃ p0 p1, a = .int .i64 p0 ∧ b = .int .i64 p1 ∧ (Lit.int .i64 p0).wf = true ∧ (Lit.int .i64 p1).wf = true := by
  obtain ⟨xs, m, _, _, _, hl, hi⟩ := DataW.trod_array Try.underlying30 h
  have h0 := hi 0 (by omega)
  have h1 := hi 1 (by omega)
  rw [cells3] at h0 h1
  rw [List.getElem?_eq_getElem (by omega)] at h0 h1
  obtain ⟨p0, rfl, w0⟩ := one_int (k := .i64) Try.underlying3 (show DataW.trod enc Try.prog w base spare held m 3 [a] = _ from h0)
  obtain ⟨p1, rfl, w1⟩ := one_int (k := .i64) Try.underlying3 (show DataW.trod enc Try.prog w base spare held m 3 [b] = _ from h1)
  exact ⟨p0, p1, rfl, rfl, w0, w1⟩
end
end Go.Proofs.Ytfjgfkokhnpbcaa.U
